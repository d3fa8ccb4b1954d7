/- Part VL1: lemmas and walks that the claim rests on. No claim is made here. -/
import Derived.Below
import Derived.Laws.OwnMore
import Derived.Deep.Draws
import Derived.OneCell
import Derived.Laws.Rows
import Derived.Test.YtfbigmdpdcpkfaaGreatDoorProg
import Derived.WalkKit
import Derived.WalkSpells
import Derived.WalkLawsBesides
import Derived.BigQuiet
import Derived.Deep.QuietTactic
import Derived.Deep.AppendLies
import Derived.Lib.Hide
import Derived.Deep.RegionHeld3
import Derived.Deep.DrawnRows
import Derived.Shelf.Strings.Builder1
import Derived.Shelf.Strings.Builder2
import Derived.Shelf.Strings.OnBuilder
import Derived.Shelf.Strings.Trim
import Derived.Shelf.Small.Utf8
import Derived.Shelf.Small.Bits
import Derived.Shelf.Small.Strs
import Derived.Shelf.Small.Wraps
import Derived.Shelf.Strings.BuilderF
import Derived.Shelf.Strconv.Atoi
import Derived.Shelf.Strconv.Itoa0
import Derived.Shelf.Strconv.Itoa1
import Derived.Shelf.LaysM
import Derived.Shelf.Strconv.Itoa2
import Derived.Shelf.Strconv.Itoa3
import Derived.Shelf.Strings.Search1
import Derived.Shelf.Strings.Search2
import Derived.Shelf.Strings.Cut
import Derived.Shelf.Strings.Shaped
import Derived.Shelf.Strings.Prefix
import Derived.Shelf.Strings.Runes
import Derived.Shelf.Strings.AsciiSet
import Derived.Shelf.Bits.Mul64
import Derived.Shelf.Strings.Repeat
import Derived.Shelf.Unicode.DecodeSlow
import Derived.IntWalk
import Derived.Deep.DeepCutAuto
import Derived.Deep.RegionHeld
import Derived.Lib.ItoaNum
import Derived.Lib.ItoaMem
import Derived.Lib.Repeat
import Derived.Lib.Join
import Derived.Lib.Atoi
import Derived.Lib.SlTrimSet
import Derived.Lib.AppendIntMem
import Derived.Shelf.Strings.SlTrimAscii
import Derived.Lib.IndexMore
import Derived.Test.YtfbigmdpdcpkfaaGreatDoorCards
import Derived.Test.YtfbigmdpdcpkfaaGreatDoorTie
import Derived.ProofKit
import Derived.OpenShut
import Derived.Deep.DeepHandedRow
import Derived.Lib.LaidTab
import Derived.Shelf.Vars
import Derived.ChangeMaps5
import Derived.Test.YtfbigmdpdcpkfaaGreatDoorA3
set_option linter.unusedVariables false
set_option maxHeartbeats 8000000
set_option maxRecDepth 100000
namespace Bn
theorem den_ne (q : Rat) : (q.den : Int) ≠ 0 := by have := q.den_nz; omega
theorem add_q (a b : Rat) : a + b = Rat.divInt (a.num * b.den + b.num * a.den) (a.den * b.den) := by
  conv => lhs; rw [q_eq a, q_eq b]
  exact Rat.divInt_add_divInt _ _ (den_ne a) (den_ne b)
theorem mul_q (a b : Rat) : a * b = Rat.divInt (a.num * b.num) (a.den * b.den) := by
  conv => lhs; rw [q_eq a, q_eq b]
  exact Rat.divInt_mul_divInt _ _
theorem neg_q (a : Rat) : -a = Rat.divInt (-a.num) a.den := by
  conv => lhs; rw [q_eq a]
  exact Rat.neg_divInt _ _
theorem div_q (a b : Rat) (hb : b ≠ 0) : a / b = Rat.divInt (a.num * b.den) (a.den * b.num) := by
  have hb' : b.num ≠ 0 := fun h => hb (Rat.num_eq_zero.1 h)
  have h1 : a / b = ((a.num : Rat) / (a.den : Rat)) / ((b.num : Rat) / (b.den : Rat)) := by
    conv => lhs; rw [q_eq a, q_eq b]
    rw [Rat.divInt_eq_div, Rat.divInt_eq_div]; rfl
  rw [h1, Rat.divInt_eq_div]
  have ha : (a.den : Rat) ≠ 0 := by have := a.den_nz; exact_mod_cast this
  have hbd : (b.den : Rat) ≠ 0 := by have := b.den_nz; exact_mod_cast this
  have hbn : (b.num : Rat) ≠ 0 := by exact_mod_cast hb'
  push_cast
  grind
theorem natAbs_mul_lt {a b : Int} {i j : Nat} (ha : a.natAbs < 4294967296 ^ i) (hb : b.natAbs < 4294967296 ^ j) : (a * b).natAbs < 4294967296 ^ (i + j) := by
  rw [Int.natAbs_mul, Nat.pow_add]
  exact Nat.mul_lt_mul'' ha hb
theorem natAbs_add_lt {a b : Int} {i : Nat} (ha : a.natAbs < 4294967296 ^ i) (hb : b.natAbs < 4294967296 ^ i) : (a + b).natAbs < 4294967296 ^ (i + 1) := by
  rw [Nat.pow_succ]; omega
theorem Sz.pos {q : Rat} {k : Nat} (h : Sz q k) : 0 < k := by
  rcases Nat.eq_zero_or_pos k with rfl | hk
  · have := h.2; have := q.den_nz; simp at *; omega
  · exact hk
theorem Sz_mul {a b : Rat} {i j : Nat} (ha : Sz a i) (hb : Sz b j) : Sz (a * b) (i + j) := by
  rw [mul_q]
  have := ha.pos
  exact Sz_divInt (natAbs_mul_lt ha.1 hb.1) (natAbs_mul_lt (by simpa using ha.2) (by simpa using hb.2)) (by omega)
theorem Sz_add {a b : Rat} {i j : Nat} (ha : Sz a i) (hb : Sz b j) : Sz (a + b) (i + j + 1) := by
  rw [add_q]
  have h1 := natAbs_mul_lt ha.1 (b := (b.den : Int)) (by simpa using hb.2)
  have h2 := natAbs_mul_lt hb.1 (b := (a.den : Int)) (by simpa using ha.2)
  rw [Nat.add_comm j i] at h2
  have h3 := natAbs_mul_lt (a := (a.den : Int)) (b := (b.den : Int)) (by simpa using ha.2) (by simpa using hb.2)
  exact Sz_divInt (natAbs_add_lt h1 h2) (Nat.lt_of_lt_of_le h3 (Nat.pow_le_pow_right (by omega) (by omega))) (by omega)
theorem Sz_neg {a : Rat} {i : Nat} (ha : Sz a i) : Sz (-a) i := by
  refine ⟨?_, ?_⟩
  · rw [Rat.neg_num]; have := ha.1; omega
  · have : (-a).den = a.den := rfl
    rw [this]; exact ha.2
theorem Sz_div {a b : Rat} {i j : Nat} (ha : Sz a i) (hb : Sz b j) (h0 : b ≠ 0) : Sz (a / b) (i + j) := by
  rw [div_q a b h0]
  have := ha.pos
  exact Sz_divInt (natAbs_mul_lt ha.1 (by simpa using hb.2)) (natAbs_mul_lt (by simpa using ha.2) hb.1) (by omega)
theorem Sz_int {z : Int} {k : Nat} (h : z.natAbs < 4294967296 ^ k) (hk : 0 < k) : Sz (z : Rat) k := by
  have hp : 1 < 4294967296 ^ k := Nat.one_lt_pow (by omega) (by omega)
  exact ⟨by simpa using h, by simpa using hp⟩
end Bn

namespace Go.Proofs.YtfbigmdpdcpkfaaGreatDoor
open Go Go.RowKit Bn
attribute [local go_sem ↓] Go.wp_at_zero Go.wp_at_succ

theorem len_le {w : World} {A : Option Addr} {n c : Nat} {l : List Nat} {A' : Option Addr} {n' c' : Nat} {l' : List Nat} (h : Wd w A n c l) (h' : Wd w A' n' c' l') (hc : Canon l) (hc' : Canon l') (hv : val l ≤ val l') : n ≤ n' := by
  rcases Nat.lt_or_ge n' n with h1 | h1
  · have := val_lt_of_len hc'.1 hc (by rw [← h.2.1, ← h'.2.1]; exact h1)
    omega
  · exact h1
theorem z_same {a b : WD} (h : a.s = b.s) : a.z + b.z = sgn a.s (val a.m + val b.m) := by
  rw [a.z_eq, b.z_eq, ← h]; cases a.s <;> simp [sgn]; omega
theorem z_more {a b : WD} (h : a.s ≠ b.s) (hv : val b.m ≤ val a.m) : a.z + b.z = sgn a.s (val a.m - val b.m) := by
  rw [a.z_eq, b.z_eq]; cases ha : a.s <;> cases hb : b.s <;> simp_all [sgn] <;> omega
theorem z_less {a b : WD} (h : a.s ≠ b.s) (hv : val a.m ≤ val b.m) : a.z + b.z = sgn b.s (val b.m - val a.m) := by
  rw [a.z_eq, b.z_eq]; cases ha : a.s <;> cases hb : b.s <;> simp_all [sgn] <;> omega
theorem add_lt_pow {x y n : Nat} (hx : x < 4294967296 ^ n) (hy : y < 4294967296 ^ n) : x + y < 4294967296 ^ (n + 1) := by rw [Nat.pow_succ]; omega
theorem plus_len {w : World} {A : Option Addr} {n c : Nat} {l : List Nat} {A' : Option Addr} {n' c' : Nat} {l' : List Nat} {N M : Nat} (h : Wd w A n c l) (h' : Wd w A' n' c' l') (hn : n ≤ N) (hn' : n' ≤ N) (hM : N + 1 ≤ M) : (digs (val l + val l')).length ≤ M :=
  dlen (add_lt_pow (h.vlt hn) (h'.vlt hn')) hM
theorem times_len {w : World} {A : Option Addr} {n c : Nat} {l : List Nat} {A' : Option Addr} {n' c' : Nat} {l' : List Nat} {M : Nat} (h : Wd w A n c l) (h' : Wd w A' n' c' l') (hM : n + n' ≤ M) : (digs (val l * val l')).length ≤ M :=
  dlen (Nat.lt_of_lt_of_eq (Nat.mul_lt_mul'' (h.vlt (Nat.le_refl _)) (h'.vlt (Nat.le_refl _))) (Nat.pow_add _ _ _).symm) hM
theorem cmpN_le {a b : Nat} : (0 ≤ cmpN a b) = (b ≤ a) := by
  unfold cmpN; split
  · simp; omega
  · split <;> simp <;> omega
end Go.Proofs.YtfbigmdpdcpkfaaGreatDoor

namespace Go.Proofs.YtfbigmdpdcpkfaaGreatDoor
open Go Go.RowKit Bn
attribute [local go_sem ↓] Go.wp_at_zero Go.wp_at_succ

theorem z_mul (a b : WD) : a.z * b.z = sgn (!(a.s == b.s)) (val a.m * val b.m) := by
  rw [a.z_eq, b.z_eq]; cases a.s <;> cases b.s <;> simp [sgn, Int.neg_mul, Int.mul_neg]
end Go.Proofs.YtfbigmdpdcpkfaaGreatDoor

namespace Go.Proofs.YtfbigmdpdcpkfaaGreatDoor
open Go Go.RowKit Bn
attribute [local go_sem ↓] Go.wp_at_zero Go.wp_at_succ

def cmpI (x y : Int) : Int := if x < y then -1 else if x = y then 0 else 1
end Go.Proofs.YtfbigmdpdcpkfaaGreatDoor

namespace Go.Proofs.YtfbigmdpdcpkfaaGreatDoor
open Go Go.RowKit Bn

section
variable {w w' : World} {b : Bool} {A A' : Option Addr} {n c n' c' k j : Nat} {z : Int} {q : Rat} {a : RD}
theorem QD.qz (h : QD w b A n c A' n' c' a k) : QZ w b A n c A' n' c' a.q k := ⟨a, h, rfl⟩
theorem QV.qz (h : QV w b A n c A' n' c' q k) : QZ w b A n c A' n' c' q k := ⟨_, h, rd_q q⟩
end
def RetII (w : World) (z z' : Int) (k : Nat) (e : Ending) (w' : World) : Prop := ∃ b A n c b' A' n' c', e = .returned (.tuple #[.agg #[.bool b, .slice A n c], .agg #[.bool b', .slice A' n' c']]) ∧ IV w' b A n c z k ∧ IV w' b' A' n' c' z' k ∧ Below w.heap.size w w'
section
variable (w : World) (b : Bool) (A : Option Addr) (n c : Nat) (z : Int) (k : Nat) (h : IZ w b A n c z k) (b' : Bool) (A' : Option Addr) (n' c' : Nat) (z' : Int) (k' : Nat) (h' : IZ w b' A' n' c' z' k')
include h
include h'
end
end Go.Proofs.YtfbigmdpdcpkfaaGreatDoor

namespace Go.Proofs.YtfbigmdpdcpkfaaGreatDoor
open Go Go.RowKit Bn
attribute [local go_sem ↓] Go.wp_at_zero Go.wp_at_succ

section
variable {w : World} {b : Bool} {A : Option Addr} {n c : Nat} {D : Option Addr} {m e : Nat} {a : RD} {k : Nat} (h : QD w b A n c D m e a k)
include h
theorem ok_00 (h1 : n = 0) (h2 : m = 0) : a.ok = !b := by
  have e1 : a.num = [] := List.eq_nil_of_length_eq_zero (by rw [← h.2.1.2.1, h1])
  have e2 : a.den = [] := List.eq_nil_of_length_eq_zero (by rw [← h.2.2.1.2.1, h2])
  unfold RD.ok
  rw [if_pos ⟨e1, e2⟩, h.1]
theorem QD.num_ne (h1 : 0 < n) : a.num ≠ [] := by intro e; have := h.2.1.2.1; rw [e] at this; simp at this; omega
theorem QD.den_ne_ (h1 : 0 < m) : a.den ≠ [] := by intro e; have := h.2.2.1.2.1; rw [e] at this; simp at this; omega
omit h in
theorem wdok_ {l : List Nat} (hl : l ≠ []) : WD.ok ⟨false, l⟩ = last0 l := by unfold WD.ok last0; simp [hl]
theorem QD.num_z (hk : WD.ok ⟨false, a.num⟩ = true) : IZ w false A n c (val a.num : Int) k := ⟨_, h.2.1, by simp [WD.z, hk], h.2.2.2.1⟩
theorem QD.den_z (hk : WD.ok ⟨false, a.den⟩ = true) : IZ w false D m e (val a.den : Int) k := ⟨_, h.2.2.1, by simp [WD.z, hk], h.2.2.2.2⟩
end
theorem ok_last {x y : Nat} {s : Int} {r : Bool} (hc : cmpI ((Nat.gcd ((x : Int)).natAbs ((y : Int)).natAbs : Nat)) 1 = s) (hr : r = (Nat.gcd x y == 1)) : (s == 0) = r := by
  subst hc hr
  simp only [Int.natAbs_natCast]
  generalize Nat.gcd x y = g
  unfold cmpI
  by_cases h1 : g = 1
  · subst h1; rfl
  · by_cases h2 : g < 1
    · have : g = 0 := by omega
      subst this; rfl
    · have h3 : ¬ ((g : Int) < 1) := by omega
      have h4 : ¬ ((g : Int) = 1) := by omega
      simp [h1, h3, h4]
end Go.Proofs.YtfbigmdpdcpkfaaGreatDoor

namespace Go.Proofs.YtfbigmdpdcpkfaaGreatDoor
open Go Go.RowKit Bn

theorem own_wd {w : World} {base k : Nat} {v : Value} {L : List Nat} (h : w.ownsRow base 100 1 v k (words L)) (hL : L.length = k) (hw : Wds L) : ∃ B cap, v = .slice B k cap ∧ Wd w B k cap L := by
  rcases Nat.eq_zero_or_pos k with h0 | h0
  · have : L = [] := List.eq_nil_of_length_eq_zero (by rw [hL, h0])
    subst this h0
    rcases h.2 with ⟨e, _⟩ | ⟨gx, cap, cur, e, _⟩
    · exact ⟨none, 0, e, Wd.nil_ _⟩
    · exact ⟨_, cap, e, Wd.of_own (e ▸ h) (by simp [Wds])⟩
  · obtain ⟨gx, cap, e, _, _⟩ := h.form h0
    exact ⟨_, cap, e, Wd.of_own (e ▸ h) hw⟩
theorem r_minus_c (w : World) (A : Option Addr) (n c : Nat) (l : List Nat) (wa : Wd w A n c l) (hn : n ≤ 1099511627776) (A' : Option Addr) (n' c' : Nat) (l' : List Nat) (wb : Wd w A' n' c' l') (hn' : n' ≤ n) (hv : val l' ≤ val l) :
  Calls Tryz.prog 137 #[.slice A n c, .slice A' n' c'] w (RetL w (digs (val l - val l'))) := by
 have HL := Lib.hid wa.2.1
 have HL' := Lib.hid wb.2.1
 have HV := Lib.hid hv
 obtain ⟨i0, hi0, hz0, hz1, hz2⟩ := info_parts info_u32
 clear hv
 go_enter Tryz.func137, Tryz.ntmps137
 go_wp2_with fail
 go_loopw [5, 6, 11] (fun ov cv iv wr => ∃ (k br : Nat) (L : List Nat), k ≤ n ∧ iv = .int .i64 (k : Nat) ∧ cv = .int .u64 (br : Nat) ∧ br ≤ 1 ∧ L.length = k ∧ LessI l l' L k br ∧ wr.ownsRow w.heap.size 100 1 ov k (words L) ∧ Below w.heap.size w wr) (fun _ _ iv _ => n - (intOf iv).toNat)
 case atStart => exact ⟨0, 0, [], Nat.zero_le _, rfl, rfl, by omega, rfl, ⟨by simp [Wds], by simp [Sm]⟩, ⟨rfl, .inl ⟨rfl, rfl⟩⟩, brefl _⟩
 case round =>
  obtain ⟨k, br, L, hk, rfl, rfl, hbr, hLk, hI, hown, hbel⟩ := hrel
  have hKp := Lib.hid ((Kp.refl w).below hbel)
  have HI := Lib.hid hI
  have HLk := Lib.hid hLk
  have HO := Lib.hid hown
  clear hI hLk hown
  by_cases hkM : k < n
  ·obtain ⟨x, y, hx, hy⟩ : ∃ x y, wd l k = x ∧ wd l' k = y := ⟨_, _, rfl, rfl⟩
   have hx1 : x < 4294967296 := by rw [← hx]; exact wa.lt k
   have hy1 : y < 4294967296 := by rw [← hy]; exact wb.lt k
   have HX := Lib.hid hx
   have HY := Lib.hid hy
   have hsz := hbel.size
   clear hx hy
   go_wp2_with (first
    | (go_at_call 158; (with_reducible refine (r_word_x _ A n c l ?_ k x HX.out (by omega)).mono ?_); exact wa.keep hKp.out; rintro e w' ⟨rfl, rfl⟩)
    | (go_at_call 158; (with_reducible refine (r_word_x _ A' n' c' l' ?_ k y HY.out (by omega)).mono ?_); exact wb.keep hKp.out; rintro e w' ⟨rfl, rfl⟩)
    | (at_builtin; refine wpList_append_lies _ rfl _ _ _ rfl w.heap.size 100 i0 (.int .u32 0) 1 4 Tryz.underlying37 hi0 hz0 hz1 hz2 rfl (by omega) _ k (words L) rfl (HO.out.alloc _) ⟨wr.heap.size, 0, none⟩ 1 1 [_] rfl rfl (World.news_of_block (heap_alloc_new wr _)) (by simp [Value.oneCell']) (by omega) (by unfold maxLen; omega) (by omega) (by simp; omega) (wr.heap.size + 1) (by simp) ?_; intro gx cap w1 hown1 hgrow hat hlt1))
   go_roundw
   case rel =>
    refine ⟨k + 1, 1 - (4294967296 + x - y - br) / 4294967296, L ++ [(4294967296 + x - y - br) % 4294967296], by omega, by go_num, by congr 1; omega, by omega, by simp [HLk.out], ⟨wds_snoc HI.out.1 (Nat.mod_lt _ (by omega)), ?_⟩, ?_, (hbel.alloc hbel.size _).grown hgrow (by simp; omega) (own_base HO.out)⟩
    ·rw [Sm_snoc HLk.out, Sm, Sm, HX.out, HY.out, Nat.pow_succ]
     exact less_step HI.out.2 (by omega)
    ·have e : (Value.int .u32 ((4294967296 + (x : Int) - y - br) % 4294967296)) = .int .u32 (((4294967296 + x - y - br) % 4294967296 : Nat) : Int) := by congr 1; omega
     rw [words_snoc, ← e]; exact hown1
   case measure => simp [intOf]; omega
  ·have hkk : k = n := by omega
   subst hkk
   have hv2 : val L = val l - val l' := by
    have h1 := HI.out.2
    have h2 := val_lt HI.out.1
    have h3 := HV.out
    rw [HLk.out] at h2
    rw [Sm_ge L (by rw [HLk.out]; exact Nat.le_refl _), Sm_ge l (by rw [← HL.out]; omega), Sm_ge l' (by rw [← HL'.out]; omega)] at h1
    rcases (show br = 0 ∨ br = 1 by omega) with rfl | rfl
    ·omega
    ·omega
   have HV2 := Lib.hid hv2
   clear hv2
   have hf := own_wd HO.out HLk.out HI.out.1
   obtain ⟨B, cap, rfl, hw⟩ := hf
   have HW := Lib.hid hw
   clear hw
   go_wp2_with fail
   (with_reducible refine (r_trim_c _ _ k cap L ?_ ?_).mono ?_); (exact HW.out); (omega); rintro e w1 ⟨A1, n1, c1, rfl, h1, hb1⟩
   go_wp2
   go_ret
   rw [HV2.out] at h1
   exact ⟨_, _, _, rfl, h1, hbel.trans (hb1.mono hbel.size)⟩
end Go.Proofs.YtfbigmdpdcpkfaaGreatDoor

namespace Go.Proofs.YtfbigmdpdcpkfaaGreatDoor
open Go Go.RowKit Bn
attribute [local go_sem ↓] Go.wp_at_zero Go.wp_at_succ
theorem r_compare_x (w : World) (A : Option Addr) (n c : Nat) (l : List Nat) (wa : Wd w A n c l) (hn : n ≤ 1099511627776) (A' : Option Addr) (n' c' : Nat) (l' : List Nat) (wb : Wd w A' n' c' l') (hn' : n' ≤ 1099511627776) (_ : Canon l) (_ : Canon l') :
    Calls Tryz.prog 136 #[.slice A n c, .slice A' n' c'] w (RetV w (.int .i64 (cmpN (val l) (val l')))) := r_compare_c w A n c l wa hn A' n' c' l' wb hn'
theorem r_add_c (w : World) (b : Bool) (A : Option Addr) (n c : Nat) (l : List Nat) (wa : Wd w A n c l) (hn : n ≤ 1099511627000) (b' : Bool) (A' : Option Addr) (n' c' : Nat) (l' : List Nat) (wb : Wd w A' n' c' l') (hn' : n' ≤ 1099511627000) :
    Calls Tryz.prog 110 #[.agg #[.bool b, .slice A n c], .agg #[.bool b', .slice A' n' c']] w (RetW w (wh (WD.z ⟨b, l⟩ + WD.z ⟨b', l'⟩))) := by
  have HL := Lib.hid wa.2.1
  have HL' := Lib.hid wb.2.1
  go_enter Tryz.func110, Tryz.ntmps110
  go_wp2_with fail
  have b0 : Below w.heap.size w (((w.alloc (.cells #[.bool b, .slice A n c] 67)).alloc (.cells #[.bool b', .slice A' n' c'] 67)).alloc (.cells #[.bool false, .slice none 0 0] 67)) := ((((Below.refl _ _).alloc (Nat.le_refl _) _).alloc (by simp) _).alloc (by simp; omega) _)
  generalize hW0 : (((w.alloc (.cells #[.bool b, .slice A n c] 67)).alloc (.cells #[.bool b', .slice A' n' c'] 67)).alloc (.cells #[.bool false, .slice none 0 0] 67)) = W0 at b0 ⊢
  have c00 : W0.cell? ⟨w.heap.size, 0, none⟩ = some (.bool b) := by subst hW0; simp [go_sem]
  have f00 : W0.frozen? ⟨w.heap.size, 0, none⟩ = false := by subst hW0; simp [go_sem]
  have c01 : W0.cell? ⟨w.heap.size, 1, none⟩ = some (.slice A n c) := by subst hW0; simp [go_sem]
  have f01 : W0.frozen? ⟨w.heap.size, 1, none⟩ = false := by subst hW0; simp [go_sem]
  have c10 : W0.cell? ⟨w.heap.size + 1, 0, none⟩ = some (.bool b') := by subst hW0; simp [go_sem]
  have f10 : W0.frozen? ⟨w.heap.size + 1, 0, none⟩ = false := by subst hW0; simp [go_sem]
  have c11 : W0.cell? ⟨w.heap.size + 1, 1, none⟩ = some (.slice A' n' c') := by subst hW0; simp [go_sem]
  have f11 : W0.frozen? ⟨w.heap.size + 1, 1, none⟩ = false := by subst hW0; simp [go_sem]
  have c20 : W0.cell? ⟨w.heap.size + 1 + 1, 0, none⟩ = some (.bool false) := by subst hW0; simp [go_sem]
  have f20 : W0.frozen? ⟨w.heap.size + 1 + 1, 0, none⟩ = false := by subst hW0; simp [go_sem]
  have c21 : W0.cell? ⟨w.heap.size + 1 + 1, 1, none⟩ = some (.slice none 0 0) := by subst hW0; simp [go_sem]
  have f21 : W0.frozen? ⟨w.heap.size + 1 + 1, 1, none⟩ = false := by subst hW0; simp [go_sem]
  have x0 : Box W0 w.heap.size 67 := by subst hW0; exact ((boxAt _ _ _ (by simp)).alloc _).alloc _
  have x1 : Box W0 (w.heap.size + 1) 67 := by subst hW0; exact (boxAt _ _ _ (by simp)).alloc _
  have x2 : Box W0 (w.heap.size + 1 + 1) 67 := by subst hW0; exact boxAt _ _ _ (by simp)
  have hm0 : Made (w.heap.size + 1 + 1) (w.heap.size + 1 + 1 + 1) 2 W0 := by subst hW0; exact made1 (by simp)
  have hs0 : w.heap.size + 1 + 1 + 1 ≤ W0.heap.size := by subst hW0; simp
  clear hW0
  have wa := wa.belw b0
  have wb := wb.belw b0
  have r0 : Below W0.heap.size W0 W0 := brefl _
  go_region_held3 (fun w' => Seen (w.heap.size + 1 + 1) (w.heap.size + 1 + 1 + 1) 2 W0 w') (first | exact Seen.of (by omega) hs0 hm0 (by assumption) | exact Seen.of (by omega) hs0 hm0 (below_drewN (by assumption) _))
    (first
      | (go_at_call 112; (with_reducible refine (r_mag_c _ b A n c l ?_ ?_).mono ?_); (exact wa); (omega); rintro e w1 ⟨A1, n1, c1, rfl, h1, hb1⟩; replace hb1 := bnext (below_drewN (brefl _) 1) hb1; have r1 := bnext r0 hb1; replace wa := wa.belw hb1; replace wb := wb.belw hb1)
      | (go_at_call 112; (with_reducible refine (r_mag_c _ b' A' n' c' l' ?_ ?_).mono ?_); (exact wb); (omega); rintro e w2 ⟨A2, n2, c2, rfl, h2, hb2⟩; have r2 := bnext r1 hb2; replace wa := wa.belw hb2; replace wb := wb.belw hb2; replace h1 := h1.belw hb2))
  obtain ⟨⟨sc, sf⟩, sr, sz⟩ := Seen.of (by omega) hs0 hm0 r2
  clear sc sf sr sz
  go_wp2_with fail
  go_region_held3 (fun w' => Seen (w.heap.size + 1 + 1) (w.heap.size + 1 + 1 + 1) 2 W0 w') (first | exact Seen.of (by omega) hs0 hm0 (by assumption) | exact Seen.of (by omega) hs0 hm0 (below_drewN (by assumption) _))
    (first
      | (go_at_call 113; (with_reducible refine (r_neg_c _ b A n c l ?_ ?_).mono ?_); (exact wa); (omega); rintro e w3 ⟨rfl, hb3⟩; replace hb3 := bnext (below_drewN (brefl _) 1) hb3; have r3 := bnext r2 hb3; replace wa := wa.belw hb3; replace wb := wb.belw hb3; replace h1 := h1.belw hb3; replace h2 := h2.belw hb3)
      | (go_at_call 113; (with_reducible refine (r_neg_c _ b' A' n' c' l' ?_ ?_).mono ?_); (exact wb); (omega); rintro e w4 ⟨rfl, hb4⟩; have r4 := bnext r3 hb4; replace wa := wa.belw hb4; replace wb := wb.belw hb4; replace h1 := h1.belw hb4; replace h2 := h2.belw hb4))
  obtain ⟨⟨sc, sf⟩, sr, sz⟩ := Seen.of (by omega) hs0 hm0 r4
  have hcm1 : Canon (WD.m ⟨b, l⟩) := WD.canon_m wa.1
  have hcm2 : Canon (WD.m ⟨b', l'⟩) := WD.canon_m wb.1
  have hn1 : n1 ≤ 1099511627000 := h1.m_len (by rw [← HL.out]; exact hn)
  have hn2 : n2 ≤ 1099511627000 := h2.m_len (by rw [← HL'.out]; exact hn')
  by_cases hs : WD.s ⟨b, l⟩ = WD.s ⟨b', l'⟩
  · have hs' : (WD.s ⟨b, l⟩ == WD.s ⟨b', l'⟩) = true := by simp [hs]
    have HZ := Lib.hid (z_same hs)
    clear hs
    rw [hs']
    clear hs'
    go_wp2_with (first
      | (go_at_call 113; (with_reducible refine (r_neg_c _ b A n c l ?_ ?_).mono ?_); (exact wa); (omega); rintro e w5 ⟨rfl, hb5⟩; have r5 := bnext r4 hb5; replace wa := wa.belw hb5; replace wb := wb.belw hb5; replace h1 := h1.belw hb5; replace h2 := h2.belw hb5; (try clear sc sf sr sz); obtain ⟨⟨sc, sf⟩, sr, sz⟩ := Seen.of (by omega) hs0 hm0 r5)
      | (go_at_call 135; (with_reducible refine (r_plus_c _ A1 n1 c1 (WD.m ⟨b, l⟩) ?_ ?_ A2 n2 c2 (WD.m ⟨b', l'⟩) ?_ ?_).mono ?_); (exact h1); (omega); (exact h2); (omega); rintro e w6 ⟨A3, n3, c3, rfl, h3, hb6⟩; have r6 := bnext r5 hb6; replace wa := wa.belw hb6; replace wb := wb.belw hb6; replace h1 := h1.belw hb6; replace h2 := h2.belw hb6; (try clear sc sf sr sz); obtain ⟨⟨sc, sf⟩, sr, sz⟩ := Seen.of (by omega) hs0 hm0 r6)
      | (go_at_call 87; (with_reducible refine (r_form_c _ (WD.s ⟨b, l⟩) A3 n3 c3 (digs (val (WD.m ⟨b, l⟩) + val (WD.m ⟨b', l'⟩))) ?_ ?_).mono ?_); (exact h3); (rw [h3.2.1]; exact plus_len h1 h2 hn1 hn2 (by decide)); rintro e w7 ⟨A4, n4, c4, rfl, h4, hb7⟩; have r7 := bnext r6 hb7; replace wa := wa.belw hb7; replace wb := wb.belw hb7; replace h1 := h1.belw hb7; replace h2 := h2.belw hb7; replace h3 := h3.belw hb7; (try clear sc sf sr sz); obtain ⟨⟨sc, sf⟩, sr, sz⟩ := Seen.of (by omega) hs0 hm0 r7))
    rw [val_digs, ← HZ.out] at h4
    refine bodyPost_ret (v := .agg #[.bool _, .slice A4 n4 c4]) (by simp [results, Tryz.results110, go_sem, sr]; rfl) rfl ?_
    have x := x2.below r7
    refine retW ?_ ?_ ?_
    · rw [HZ.out, val_digs]
    · exact h4.keep (kp2 x (by decide) _ _ _ _)
    · exact ((b0.trans (r7.mono b0.size)).setCell (by dsimp only; omega) _).setCell (by dsimp only; omega) _
  · have hs' : (WD.s ⟨b, l⟩ == WD.s ⟨b', l'⟩) = false := by simp [hs]
    rw [hs']
    clear hs'
    by_cases hv : val (WD.m ⟨b', l'⟩) ≤ val (WD.m ⟨b, l⟩)
    · have hd : decide ((0 : Int) ≤ cmpN (val (WD.m ⟨b, l⟩)) (val (WD.m ⟨b', l'⟩))) = true := by simp [cmpN_le, hv]
      have HZ := Lib.hid (z_more (a := ⟨b, l⟩) (b := ⟨b', l'⟩) hs hv)
      have HV := Lib.hid hv
      clear hs hv
      have hlen : n2 ≤ n1 := len_le h2 h1 hcm2 hcm1 (HV.out)
      go_wp2_with (first
        | (go_at_call 136; (with_reducible refine (r_compare_x _ A1 n1 c1 (WD.m ⟨b, l⟩) ?_ ?_ A2 n2 c2 (WD.m ⟨b', l'⟩) ?_ ?_ hcm1 hcm2).mono ?_); (exact h1); (omega); (exact h2); (omega); rintro e w5 ⟨rfl, hb5⟩; have r5 := bnext r4 hb5; replace wa := wa.belw hb5; replace wb := wb.belw hb5; replace h1 := h1.belw hb5; replace h2 := h2.belw hb5; (try clear sc sf sr sz); obtain ⟨⟨sc, sf⟩, sr, sz⟩ := Seen.of (by omega) hs0 hm0 r5)
        | (go_at_call 113; (with_reducible refine (r_neg_c _ b A n c l ?_ ?_).mono ?_); (exact wa); (omega); rintro e w6 ⟨rfl, hb6⟩; have r6 := bnext r5 hb6; replace wa := wa.belw hb6; replace wb := wb.belw hb6; replace h1 := h1.belw hb6; replace h2 := h2.belw hb6; (try clear sc sf sr sz); obtain ⟨⟨sc, sf⟩, sr, sz⟩ := Seen.of (by omega) hs0 hm0 r6)
        | (go_at_call 137; (with_reducible refine (r_minus_c _ A1 n1 c1 (WD.m ⟨b, l⟩) ?_ ?_ A2 n2 c2 (WD.m ⟨b', l'⟩) ?_ ?_ ?_).mono ?_); (exact h1); (omega); (exact h2); (exact hlen); (exact HV.out); rintro e w7 ⟨A3, n3, c3, rfl, h3, hb7⟩; have r7 := bnext r6 hb7; replace wa := wa.belw hb7; replace wb := wb.belw hb7; replace h1 := h1.belw hb7; replace h2 := h2.belw hb7; (try clear sc sf sr sz); obtain ⟨⟨sc, sf⟩, sr, sz⟩ := Seen.of (by omega) hs0 hm0 r7)
        | (go_at_call 87; (with_reducible refine (r_form_c _ (WD.s ⟨b, l⟩) A3 n3 c3 (digs (val (WD.m ⟨b, l⟩) - val (WD.m ⟨b', l'⟩))) ?_ ?_).mono ?_); (exact h3); (rw [h3.2.1]; exact dlen (Nat.lt_of_le_of_lt (Nat.sub_le _ _) (h1.vlt hn1)) (by decide)); rintro e w8 ⟨A4, n4, c4, rfl, h4, hb8⟩; have r8 := bnext r7 hb8; replace wa := wa.belw hb8; replace wb := wb.belw hb8; replace h1 := h1.belw hb8; replace h2 := h2.belw hb8; replace h3 := h3.belw hb8; (try clear sc sf sr sz); obtain ⟨⟨sc, sf⟩, sr, sz⟩ := Seen.of (by omega) hs0 hm0 r8))
      rw [val_digs, ← HZ.out] at h4
      refine bodyPost_ret (v := .agg #[.bool _, .slice A4 n4 c4]) (by simp [results, Tryz.results110, go_sem, sr]; rfl) rfl ?_
      have x := x2.below r8
      refine retW ?_ ?_ ?_
      · rw [HZ.out, val_digs]
      · exact h4.keep (kp2 x (by decide) _ _ _ _)
      · exact ((b0.trans (r8.mono b0.size)).setCell (by dsimp only; omega) _).setCell (by dsimp only; omega) _
    · have hd : decide ((0 : Int) ≤ cmpN (val (WD.m ⟨b, l⟩)) (val (WD.m ⟨b', l'⟩))) = false := by simp [cmpN_le]; omega
      have HZ := Lib.hid (z_less (a := ⟨b, l⟩) (b := ⟨b', l'⟩) hs (by omega))
      have HV := Lib.hid hv
      clear hs hv
      have hlen : n1 ≤ n2 := len_le h1 h2 hcm1 hcm2 (Nat.le_of_not_le HV.out)
      go_wp2_with (first
        | (go_at_call 136; (with_reducible refine (r_compare_x _ A1 n1 c1 (WD.m ⟨b, l⟩) ?_ ?_ A2 n2 c2 (WD.m ⟨b', l'⟩) ?_ ?_ hcm1 hcm2).mono ?_); (exact h1); (omega); (exact h2); (omega); rintro e w5 ⟨rfl, hb5⟩; have r5 := bnext r4 hb5; replace wa := wa.belw hb5; replace wb := wb.belw hb5; replace h1 := h1.belw hb5; replace h2 := h2.belw hb5; (try clear sc sf sr sz); obtain ⟨⟨sc, sf⟩, sr, sz⟩ := Seen.of (by omega) hs0 hm0 r5)
        | (go_at_call 113; (with_reducible refine (r_neg_c _ b' A' n' c' l' ?_ ?_).mono ?_); (exact wb); (omega); rintro e w6 ⟨rfl, hb6⟩; have r6 := bnext r5 hb6; replace wa := wa.belw hb6; replace wb := wb.belw hb6; replace h1 := h1.belw hb6; replace h2 := h2.belw hb6; (try clear sc sf sr sz); obtain ⟨⟨sc, sf⟩, sr, sz⟩ := Seen.of (by omega) hs0 hm0 r6)
        | (go_at_call 137; (with_reducible refine (r_minus_c _ A2 n2 c2 (WD.m ⟨b', l'⟩) ?_ ?_ A1 n1 c1 (WD.m ⟨b, l⟩) ?_ ?_ ?_).mono ?_); (exact h2); (omega); (exact h1); (exact hlen); (exact Nat.le_of_not_le HV.out); rintro e w7 ⟨A3, n3, c3, rfl, h3, hb7⟩; have r7 := bnext r6 hb7; replace wa := wa.belw hb7; replace wb := wb.belw hb7; replace h1 := h1.belw hb7; replace h2 := h2.belw hb7; (try clear sc sf sr sz); obtain ⟨⟨sc, sf⟩, sr, sz⟩ := Seen.of (by omega) hs0 hm0 r7)
        | (go_at_call 87; (with_reducible refine (r_form_c _ (WD.s ⟨b', l'⟩) A3 n3 c3 (digs (val (WD.m ⟨b', l'⟩) - val (WD.m ⟨b, l⟩))) ?_ ?_).mono ?_); (exact h3); (rw [h3.2.1]; exact dlen (Nat.lt_of_le_of_lt (Nat.sub_le _ _) (h2.vlt hn2)) (by decide)); rintro e w8 ⟨A4, n4, c4, rfl, h4, hb8⟩; have r8 := bnext r7 hb8; replace wa := wa.belw hb8; replace wb := wb.belw hb8; replace h1 := h1.belw hb8; replace h2 := h2.belw hb8; replace h3 := h3.belw hb8; (try clear sc sf sr sz); obtain ⟨⟨sc, sf⟩, sr, sz⟩ := Seen.of (by omega) hs0 hm0 r8))
      rw [val_digs, ← HZ.out] at h4
      refine bodyPost_ret (v := .agg #[.bool _, .slice A4 n4 c4]) (by simp [results, Tryz.results110, go_sem, sr]; rfl) rfl ?_
      have x := x2.below r8
      refine retW ?_ ?_ ?_
      · rw [HZ.out, val_digs]
      · exact h4.keep (kp2 x (by decide) _ _ _ _)
      · exact ((b0.trans (r8.mono b0.size)).setCell (by dsimp only; omega) _).setCell (by dsimp only; omega) _
end Go.Proofs.YtfbigmdpdcpkfaaGreatDoor

namespace Go.Proofs.YtfbigmdpdcpkfaaGreatDoor
open Go Go.RowKit Bn
attribute [local go_sem ↓] Go.wp_at_zero Go.wp_at_succ
theorem cmpI_sub (x y : Int) : (x + -y).sign = cmpI x y := by
  unfold cmpI
  rcases Int.lt_trichotomy x y with h | h | h
  · rw [if_pos h]; exact Int.sign_eq_neg_one_of_neg (by omega)
  · subst h; simp [show x + -x = 0 by omega]
  · rw [if_neg (by omega), if_neg (by omega)]; exact Int.sign_eq_one_of_pos (by omega)
section
variable (w : World) (b : Bool) (A : Option Addr) (n c : Nat) (z : Int) (k : Nat) (h : IZ w b A n c z k) (b' : Bool) (A' : Option Addr) (n' c' : Nat) (z' : Int) (k' : Nat) (h' : IZ w b' A' n' c' z' k')
include h
include h'
theorem r01_add (hk : k + k' ≤ 1000000000) : Calls Tryz.prog 110 #[.agg #[.bool b, .slice A n c], .agg #[.bool b', .slice A' n' c']] w (RetI w (z + z') (k + k' + 1)) := by
  have hz := h.mono (Nat.le_add_right k k') |>.lt
  have hz' := h'.mono (Nat.le_add_left k' k) |>.lt
  obtain ⟨l, h1, rfl, h3⟩ := h
  obtain ⟨l', h1', rfl, h3'⟩ := h'
  exact (r_add_c w b A n c l h1 (by omega) b' A' n' c' l' h1' (by omega)).mono fun _ _ r => r.i (natAbs_add_lt hz hz')
end
theorem r01_sub (w : World) (b : Bool) (A : Option Addr) (n c : Nat) (z : Int) (k : Nat) (h : IZ w b A n c z k) (b' : Bool) (A' : Option Addr) (n' c' : Nat) (z' : Int) (k' : Nat) (h' : IZ w b' A' n' c' z' k') (hk : k + k' ≤ 1000000000) :
    Calls Tryz.prog 159 #[.agg #[.bool b, .slice A n c], .agg #[.bool b', .slice A' n' c']] w (RetI w (z + -z') (k + k' + 1)) := by
  go_enter Tryz.func159, Tryz.ntmps159
  go_wp2_with fail
  have p1 := ((((Kp.refl w).alloc (.cells #[.bool b, .slice A n c] 67)).alloc (.cells #[.bool b', .slice A' n' c'] 67)).alloc (.cells #[.bool false, .slice none 0 0] 67))
  have bw1 := ((((brefl w).alloc (by first | omega | (simp <;> omega)) (.cells #[.bool b, .slice A n c] 67)).alloc (by first | omega | (simp <;> omega)) (.cells #[.bool b', .slice A' n' c'] 67)).alloc (by first | omega | (simp <;> omega)) (.cells #[.bool false, .slice none 0 0] 67))
  have x1a : Blk (((w.alloc (.cells #[.bool b, .slice A n c] 67)).alloc (.cells #[.bool b', .slice A' n' c'] 67)).alloc (.cells #[.bool false, .slice none 0 0] 67)) w.heap.size 67 #[.bool b, .slice A n c] := (((blkAt _ _ _ (by simp)).alloc (.cells #[.bool b', .slice A' n' c'] 67)).alloc (.cells #[.bool false, .slice none 0 0] 67))
  have x1b : Blk (((w.alloc (.cells #[.bool b, .slice A n c] 67)).alloc (.cells #[.bool b', .slice A' n' c'] 67)).alloc (.cells #[.bool false, .slice none 0 0] 67)) (w.heap.size + 1) 67 #[.bool b', .slice A' n' c'] := ((blkAt _ _ _ (by simp)).alloc (.cells #[.bool false, .slice none 0 0] 67))
  have x1c : Blk (((w.alloc (.cells #[.bool b, .slice A n c] 67)).alloc (.cells #[.bool b', .slice A' n' c'] 67)).alloc (.cells #[.bool false, .slice none 0 0] 67)) (w.heap.size + 1 + 1) 67 #[.bool false, .slice none 0 0] := (blkAt _ _ _ (by simp))
  have lw1 : w.heap.size + 3 ≤ (((w.alloc (.cells #[.bool b, .slice A n c] 67)).alloc (.cells #[.bool b', .slice A' n' c'] 67)).alloc (.cells #[.bool false, .slice none 0 0] 67)).heap.size := by simp
  generalize hE1 : (((w.alloc (.cells #[.bool b, .slice A n c] 67)).alloc (.cells #[.bool b', .slice A' n' c'] 67)).alloc (.cells #[.bool false, .slice none 0 0] 67)) = w1 at p1 bw1 lw1 x1a x1b x1c ⊢
  clear hE1
  replace h := h.keep p1
  replace h' := h'.keep p1
  obtain ⟨cx1aa, cx1ab⟩ := x1a.c2
  obtain ⟨lx1aa, lx1ab, lx1ac, lx1ad⟩ := lts0 x1a.lt
  obtain ⟨cx1ba, cx1bb⟩ := x1b.c2
  obtain ⟨lx1ba, lx1bb, lx1bc, lx1bd⟩ := lts1 x1b.lt
  obtain ⟨cx1ca, cx1cb⟩ := x1c.c2
  obtain ⟨fx1ca, fx1cb⟩ := x1c.f2
  obtain ⟨lx1ca, lx1cb, lx1cc, lx1cd⟩ := lts2 x1c.lt
  have nfx1_0_0 : ¬ w.heap.size = w.heap.size + 1 + 1 := by omega
  have nex1_0_0 : ¬ w.heap.size = w.heap.size + 2 := by omega
  have nfx1_1_0 : ¬ w.heap.size + 1 = w.heap.size + 1 + 1 := by omega
  have nex1_1_0 : ¬ w.heap.size = w.heap.size + 1 := by omega
  go_region_held3 (fun w' => SeesX w1.heap.size (w.heap.size + 1 + 1) w1 w') (first | with_reducible exact SeesX.of (Nat.le_refl _) (by assumption) | with_reducible exact SeesX.of (Nat.le_refl _) (brefl _).drew | with_reducible exact (SeesX.set (SeesX.set (SeesX.of (Nat.le_refl _) (by assumption)))) | with_reducible exact (SeesX.set (SeesX.of (Nat.le_refl _) (by assumption))) | exact SeesX.of (Nat.le_refl _) (below_drewN (brefl _) 1) | exact SeesX.of (Nat.le_refl _) (below_drewN (by assumption) _))
    (first
      | (go_at_call 85; (with_reducible refine (r01_neg _ b' A' n' c' (z') (k') ?_ ?_).mono ?_); (exact h'); (first | omega | decide | assumption); rintro e w2 ⟨b2, A2, n2, c2, rfl, h2, hb2⟩; replace hb2 := bnext (below_drewN (brefl _) 1) hb2; have q2 : Below w1.heap.size w1 w2 := bnext (brefl w1) hb2; replace h := h.belw hb2; replace h' := h'.belw hb2)
      | (go_at_call 110; (with_reducible refine (r01_add _ b A n c (z) (k) ?_ b2 A2 n2 c2 (-(z')) ((k')) ?_ ?_).mono ?_); (exact h); (exact h2.iz); (first | omega | decide | assumption); rintro e w3 ⟨b3, A3, n3, c3, rfl, h3, hb3⟩; have q3 : Below w1.heap.size w1 w3 := bnext q2 hb3; replace h := h.belw hb3; replace h' := h'.belw hb3; replace h2 := h2.belw hb3; have x1c := x1c.b q3; obtain ⟨cx1ca, cx1cb⟩ := x1c.c2; obtain ⟨fx1ca, fx1cb⟩ := x1c.f2))
  have bw3 := bw1.trans (q3.mono bw1.size)
  clear cx1aa cx1ab lx1aa lx1ab lx1ac lx1ad cx1ba cx1bb lx1ba lx1bb lx1bc lx1bd cx1ca fx1ca cx1cb fx1cb lx1ca lx1cb lx1cc lx1cd
  replace x1a := x1a.b q3
  replace x1b := x1b.b q3
  have lw3 := q3.size
  obtain ⟨cx1ca, cx1cb⟩ := x1c.c2
  obtain ⟨fx1ca, fx1cb⟩ := x1c.f2
  go_wp2_with fail
  refine bodyPost_ret (v := .agg #[.bool b3, .slice A3 n3 c3]) (by simp [results, Tryz.results159, go_sem, *] <;> first | rfl | exact ⟨rfl, rfl⟩) rfl ?_
  exact ⟨b3, A3, n3, c3, rfl, h3.keep (((Kp.refl w3).sb (w.heap.size + 1 + 1) 0 x1c.box (by decide) (.bool b3)).sb (w.heap.size + 1 + 1) 1 (x1c.box.set ⟨w.heap.size + 1 + 1, 0, none⟩ (.bool b3)) (by decide) (.slice A3 n3 c3)), ((bw3.sc (w.heap.size + 1 + 1) 0 (by omega) (.bool b3)).sc (w.heap.size + 1 + 1) 1 (by omega) (.slice A3 n3 c3))⟩
theorem r01_cmp (w : World) (b : Bool) (A : Option Addr) (n c : Nat) (z : Int) (k : Nat) (h : IZ w b A n c z k) (b' : Bool) (A' : Option Addr) (n' c' : Nat) (z' : Int) (k' : Nat) (h' : IZ w b' A' n' c' z' k') (hk : k + k' ≤ 999999999) :
  Calls Tryz.prog 139 #[.agg #[.bool b, .slice A n c], .agg #[.bool b', .slice A' n' c']] w (RetV w (.int .i64 (cmpI z z'))) := by
 go_enter Tryz.func139, Tryz.ntmps139
 go_wp2_with fail
 (with_reducible refine (r01_sub _ b A n c (z) (k) ?_ b' A' n' c' (z') (k') ?_ ?_).mono ?_); (exact (h.belw (((Below.refl _ _).alloc (Nat.le_refl _) _).alloc (by simp) _))); (exact (h'.belw (((Below.refl _ _).alloc (Nat.le_refl _) _).alloc (by simp) _))); (first | omega | decide | assumption); rintro e w1 ⟨b1, A1, n1, c1, rfl, h1, hb1⟩
 have q1 := (((Below.refl _ _).alloc (Nat.le_refl _) _).alloc (by simp) _).trans (hb1.mono (by simp <;> omega))
 replace h := h.belw q1
 replace h' := h'.belw q1
 have x1a : Blk w1 w.heap.size 67 #[.bool b, .slice A n c] := ((blkAt _ _ _ (by simp)).alloc _).below hb1 (by simp <;> omega)
 have x1b := (blkAt _ _ _ (g := w.heap.size + 1) (by simp)).below hb1 (by simp)
 have bw1 := (brefl w).trans (q1.mono (brefl w).size)
 have lw1 : w.heap.size + 2 ≤ w1.heap.size := by have := hb1.size; simp at this; omega
 clear q1
 go_wp2_with fail
 (with_reducible refine (r01_sign _ b1 A1 n1 c1 ((z) + -(z')) ((k) + (k') + 1) ?_ ?_).mono ?_); (exact h1.iz); (first | omega | decide | assumption); rintro e w2 ⟨rfl, q2⟩
 replace h := h.belw q2
 replace h' := h'.belw q2
 replace h1 := h1.belw q2
 replace x1a := x1a.b q2
 replace x1b := x1b.b q2
 have bw2 := bw1.trans (q2.mono bw1.size)
 have lw2 := q2.size
 clear q2 bw1
 go_wp2_with fail
 go_ret
 exact retI (cmpI_sub _ _) bw2
end Go.Proofs.YtfbigmdpdcpkfaaGreatDoor

namespace Go.Proofs.YtfbigmdpdcpkfaaGreatDoor
open Go Go.RowKit Bn
attribute [local go_sem ↓] Go.wp_at_zero Go.wp_at_succ
theorem g_one (w : World)  :
  Calls Tryz.prog 84 #[] w (RetI w 1 1) := by
 go_enter Tryz.func84, Tryz.ntmps84
 go_wp2_with fail
 (with_reducible refine (r01_of1 _ (1) ?_ ?_).mono ?_); (first | omega | decide | assumption); (first | omega | decide | assumption); rintro e w1 ⟨b1, A1, n1, c1, rfl, h1, hb1⟩
 have q1 := ((Below.refl _ _).alloc (Nat.le_refl _) _).trans (hb1.mono (by simp))
 have x1a : Blk w1 w.heap.size 67 #[.bool false, .slice none 0 0] := (blkAt _ _ _ (by simp)).below hb1 (by simp)
 have bw1 := (brefl w).trans (q1.mono (brefl w).size)
 have lw1 : w.heap.size + 1 ≤ w1.heap.size := by have := hb1.size; simp at this; omega
 clear q1
 obtain ⟨cx1aa, cx1ab⟩ := x1a.c2
 obtain ⟨fx1aa, fx1ab⟩ := x1a.f2
 obtain ⟨lx1aa, lx1ab, lx1ac, lx1ad⟩ := lts0 x1a.lt
 go_wp2_with fail
 refine bodyPost_ret (v := .agg #[.bool b1, .slice A1 n1 c1]) (by simp [results, Tryz.results84, go_sem, *] <;> first | rfl | exact ⟨rfl, rfl⟩) rfl ?_
 exact ⟨b1, A1, n1, c1, rfl, h1.keep (((Kp.refl w1).sb w.heap.size 0 x1a.box (by decide) (.bool b1)).sb w.heap.size 1 (x1a.box.set ⟨w.heap.size, 0, none⟩ (.bool b1)) (by decide) (.slice A1 n1 c1)), ((bw1.sc w.heap.size 0 (by omega) (.bool b1)).sc w.heap.size 1 (by omega) (.slice A1 n1 c1))⟩
theorem r01_cmp_e (w : World) (b : Bool) (A : Option Addr) (n c : Nat) (z : Int) (k : Nat) (h : IZ w b A n c z k) (b' : Bool) (A' : Option Addr) (n' c' : Nat) (z' : Int) (k' : Nat) (h' : IZ w b' A' n' c' z' k') (s : Int) (hs : cmpI z z' = s) (hk : k + k' ≤ 999999999) :
    Calls Tryz.prog 139 #[.agg #[.bool b, .slice A n c], .agg #[.bool b', .slice A' n' c']] w (RetV w (.int .i64 s)) := by subst hs; exact r01_cmp w b A n c z k h b' A' n' c' z' k' h' hk

def plainB (l : List Nat) : Bool := l != [] && last0 l
theorem plain_p {l : List Nat} (h : l ≠ []) : plainB l = last0 l := by unfold plainB; have : (l != []) = true := bne_iff_ne.2 h; rw [this]; rfl
theorem g_plain_e (w : World) (A : Option Addr) (n c : Nat) (l : List Nat) (v : Bool) (h : Wd w A n c l) (hv : plainB l = v) (hn : n ≤ 1000000000) :
  Calls Tryz.prog 138 #[.slice A n c] w (RetV w (.bool v)) := by
 have HL := Lib.hid h.2.1
 have HV := Lib.hid hv
 clear hv
 by_cases h0 : n = 0
 ·subst h0
  have hl : l = [] := List.eq_nil_of_length_eq_zero HL.out.symm
  have HE := Lib.hid (show v = false by rw [← HV.out, hl]; rfl)
  clear hl
  go_enter Tryz.func138, Tryz.ntmps138
  go_wp2
  go_ret
  exact retB HE.out.symm (Below.refl _ _)
 ·obtain ⟨g, o, rfl, hgl, hc⟩ := h.at2 (by omega)
  have hck := hc (n - 1) (by omega)
  have hlt := h.lt (n - 1)
  have hne : l ≠ [] := by rintro rfl; have := HL.out; simp at this; omega
  have he : v = (wd l (n - 1) != 0) := by rw [← HV.out, plain_p hne]; unfold last0; rw [← HL.out]
  have HE := Lib.hid he
  have hp : 0 < n := by omega
  clear hc h0 he hne
  generalize hgx : wd l (n - 1) = x at *
  clear hgx
  go_enter Tryz.func138, Tryz.ntmps138
  go_wp2
  go_ret
  refine retB ?_ (Below.refl _ _)
  rw [HE.out]
  by_cases hz : x = 0
  ·subst hz; rfl
  ·have h1 : (x != 0) = true := bne_iff_ne.2 hz
   have h2 : ((x : Int) != 0) = true := bne_iff_ne.2 (by omega)
   first | rw [h1, h2] | simp [hz]
theorem gok_0 {w : World} {b : Bool} {A : Option Addr} {n c : Nat} {D : Option Addr} {m e : Nat} {a : RD} {k : Nat} (h : QD w b A n c D m e a k) (h0 : 0 < n ∨ 0 < m) : a.ok = (plainB a.num && plainB a.den && Nat.gcd (val a.num) (val a.den) == 1) := by
  unfold RD.ok plainB
  rw [if_neg (by intro x; rcases h0 with h1 | h1; exact h.num_ne h1 x.1; exact h.den_ne_ h1 x.2)]
  cases (a.num != []) <;> cases (a.den != []) <;> cases (last0 a.num) <;> cases (last0 a.den) <;> simp
theorem plain_wd {l : List Nat} (h : plainB l = true) : WD.ok ⟨false, l⟩ = true := by
  unfold plainB at h
  have h1 : l ≠ [] := by rintro rfl; exact absurd h (by decide)
  rw [wdok_ h1]
  exact ((Bool.and_eq_true _ _).mp h).2
theorem g_valid_0 (w : World) (b : Bool) (A : Option Addr) (n c : Nat) (D : Option Addr) (m e : Nat) (a : RD) (k : Nat) (h : QD w b A n c D m e a k) (hk : k ≤ 300000000) (h1 : n = 0) (h2 : m = 0) :
  Calls Tryz.prog 111 #[.agg #[.bool b, .slice A n c, .slice D m e]] w (RetV w (.bool a.ok)) := by
 have HR := Lib.hid (show a.ok = !b from ok_00 h h1 h2)
 have HK := Lib.hid hk
 subst h1 h2
 clear h hk
 go_enter Tryz.func111, Tryz.ntmps111
 go_wp2
 go_ret
 exact retB (by rw [HR.out]) ((Below.refl _ _).alloc (Nat.le_refl _) _)
theorem g_valid_z1 (w : World) (b : Bool) (A : Option Addr) (n c : Nat) (D : Option Addr) (m e : Nat) (a : RD) (k : Nat) (h : QD w b A n c D m e a k) (hk : k ≤ 300000000) (h1 : n = 0) (h2 : 0 < m) (p1 : plainB a.num = false) :
  Calls Tryz.prog 111 #[.agg #[.bool b, .slice A n c, .slice D m e]] w (RetV w (.bool a.ok)) := by
 have HR := Lib.hid (show a.ok = false by rw [gok_0 h (.inr h2), p1]; simp)
 have HP1 := Lib.hid p1
 have e1 : ((n : Int) == 0) = true := by simp [h1]
 have e2 : ((m : Int) == 0) = false := by simp; omega
 have HK := Lib.hid hk
 clear h1 hk p1 h2
 go_enter Tryz.func111, Tryz.ntmps111
 go_wp2_with fail
 (with_reducible refine (g_plain_e _ A n c a.num false ?_ ?_ ?_).mono ?_); (exact h.2.1.belw ((Below.refl _ _).alloc (Nat.le_refl _) _)); (exact HP1.out); (have := h.2.2.2.1; have := HK.out; omega); rintro e w1 ⟨rfl, hb1⟩
 have q1 := ((Below.refl _ _).alloc (Nat.le_refl _) _).trans (hb1.mono (by simp))
 replace h := h.belw q1
 have x1a : Blk w1 w.heap.size 39 #[.bool b, .slice A n c, .slice D m e] := (blkAt _ _ _ (by simp)).below hb1 (by simp)
 have bw1 := (brefl w).trans (q1.mono (brefl w).size)
 have lw1 : w.heap.size + 1 ≤ w1.heap.size := by have := hb1.size; simp at this; omega
 clear q1
 go_wp2_with fail
 go_ret
 exact retB HR.out.symm bw1
theorem g_valid_z2 (w : World) (b : Bool) (A : Option Addr) (n c : Nat) (D : Option Addr) (m e : Nat) (a : RD) (k : Nat) (h : QD w b A n c D m e a k) (hk : k ≤ 300000000) (h1 : n = 0) (h2 : 0 < m) (p1 : plainB a.num = true) (p2 : plainB a.den = false) :
  Calls Tryz.prog 111 #[.agg #[.bool b, .slice A n c, .slice D m e]] w (RetV w (.bool a.ok)) := by
 have HR := Lib.hid (show a.ok = false by rw [gok_0 h (.inr h2), p1, p2]; simp)
 have HP1 := Lib.hid p1
 have HP2 := Lib.hid p2
 have e1 : ((n : Int) == 0) = true := by simp [h1]
 have e2 : ((m : Int) == 0) = false := by simp; omega
 have HK := Lib.hid hk
 clear h1 hk p1 h2 p2
 go_enter Tryz.func111, Tryz.ntmps111
 go_wp2_with fail
 (with_reducible refine (g_plain_e _ A n c a.num true ?_ ?_ ?_).mono ?_); (exact h.2.1.belw ((Below.refl _ _).alloc (Nat.le_refl _) _)); (exact HP1.out); (have := h.2.2.2.1; have := HK.out; omega); rintro e w1 ⟨rfl, hb1⟩
 have q1 := ((Below.refl _ _).alloc (Nat.le_refl _) _).trans (hb1.mono (by simp))
 replace h := h.belw q1
 have x1a : Blk w1 w.heap.size 39 #[.bool b, .slice A n c, .slice D m e] := (blkAt _ _ _ (by simp)).below hb1 (by simp)
 have bw1 := (brefl w).trans (q1.mono (brefl w).size)
 have lw1 : w.heap.size + 1 ≤ w1.heap.size := by have := hb1.size; simp at this; omega
 clear q1
 obtain ⟨cx1aa, cx1ab, cx1ac⟩ := x1a.c3
 obtain ⟨lx1aa, lx1ab, lx1ac, lx1ad⟩ := lts0 x1a.lt
 go_wp2_with fail
 (with_reducible refine (g_plain_e _ D m e a.den false ?_ ?_ ?_).mono ?_); (exact h.2.2.1); (exact HP2.out); (have := h.2.2.2.2; have := HK.out; omega); rintro e w2 ⟨rfl, q2⟩
 clear cx1aa cx1ab cx1ac lx1aa lx1ab lx1ac lx1ad
 replace h := h.belw q2
 replace x1a := x1a.b q2
 have bw2 := bw1.trans (q2.mono bw1.size)
 have lw2 := q2.size
 clear q2 bw1
 go_wp2_with fail
 go_ret
 exact retB HR.out.symm bw2
theorem g_valid_z3 (w : World) (b : Bool) (A : Option Addr) (n c : Nat) (D : Option Addr) (m e : Nat) (a : RD) (k : Nat) (h : QD w b A n c D m e a k) (hk : k ≤ 300000000) (h1 : n = 0) (h2 : 0 < m) (p1 : plainB a.num = true) (p2 : plainB a.den = true) :
  Calls Tryz.prog 111 #[.agg #[.bool b, .slice A n c, .slice D m e]] w (RetV w (.bool a.ok)) := by
 have HR := Lib.hid (show a.ok = (Nat.gcd (val a.num) (val a.den) == 1) by rw [gok_0 h (.inr h2), p1, p2]; simp)
 have HP1 := Lib.hid p1
 have HP2 := Lib.hid p2
 have e1 : ((n : Int) == 0) = true := by simp [h1]
 have e2 : ((m : Int) == 0) = false := by simp; omega
 have HK := Lib.hid hk
 clear h1 hk p1 h2 p2
 go_enter Tryz.func111, Tryz.ntmps111
 go_wp2_with fail
 obtain ⟨s, hs⟩ : ∃ s, cmpI ((Nat.gcd ((val a.num : Int)).natAbs ((val a.den : Int)).natAbs : Nat)) 1 = s := ⟨_, rfl⟩
 have HC := Lib.hid hs
 clear hs
 have hN := h.num_z (plain_wd HP1.out)
 have hD := h.den_z (plain_wd HP2.out)
 (with_reducible refine (g_plain_e _ A n c a.num true ?_ ?_ ?_).mono ?_); (exact h.2.1.belw ((Below.refl _ _).alloc (Nat.le_refl _) _)); (exact HP1.out); (have := h.2.2.2.1; have := HK.out; omega); rintro e w1 ⟨rfl, hb1⟩
 have q1 := ((Below.refl _ _).alloc (Nat.le_refl _) _).trans (hb1.mono (by simp))
 replace h := h.belw q1
 replace hN := hN.belw q1
 replace hD := hD.belw q1
 have x1a : Blk w1 w.heap.size 39 #[.bool b, .slice A n c, .slice D m e] := (blkAt _ _ _ (by simp)).below hb1 (by simp)
 have bw1 := (brefl w).trans (q1.mono (brefl w).size)
 have lw1 : w.heap.size + 1 ≤ w1.heap.size := by have := hb1.size; simp at this; omega
 clear q1
 obtain ⟨cx1aa, cx1ab, cx1ac⟩ := x1a.c3
 obtain ⟨lx1aa, lx1ab, lx1ac, lx1ad⟩ := lts0 x1a.lt
 go_wp2_with fail
 (with_reducible refine (g_plain_e _ D m e a.den true ?_ ?_ ?_).mono ?_); (exact h.2.2.1); (exact HP2.out); (have := h.2.2.2.2; have := HK.out; omega); rintro e w2 ⟨rfl, q2⟩
 clear cx1aa cx1ab cx1ac lx1aa lx1ab lx1ac lx1ad
 replace h := h.belw q2
 replace hN := hN.belw q2
 replace hD := hD.belw q2
 replace x1a := x1a.b q2
 have bw2 := bw1.trans (q2.mono bw1.size)
 have lw2 := q2.size
 clear q2 bw1
 obtain ⟨cx1aa, cx1ab, cx1ac⟩ := x1a.c3
 obtain ⟨lx1aa, lx1ab, lx1ac, lx1ad⟩ := lts0 x1a.lt
 go_wp2_with fail
 (with_reducible refine (r01_gcd _ false A n c ((val a.num : Int)) (k) ?_ false D m e ((val a.den : Int)) (k) ?_ ?_).mono ?_); (exact hN); (exact hD); (have := HK.out; omega); rintro e w3 ⟨b3, A3, n3, c3, rfl, h3, q3⟩
 clear cx1aa cx1ab cx1ac lx1aa lx1ab lx1ac lx1ad
 replace h := h.belw q3
 replace hN := hN.belw q3
 replace hD := hD.belw q3
 replace x1a := x1a.b q3
 have bw3 := bw2.trans (q3.mono bw2.size)
 have lw3 := q3.size
 clear q3 bw2
 go_wp2_with fail
 (with_reducible refine (g_one _).mono ?_); rintro e w4 ⟨b4, A4, n4, c4, rfl, h4, q4⟩
 replace h := h.belw q4
 replace hN := hN.belw q4
 replace hD := hD.belw q4
 replace h3 := h3.belw q4
 replace x1a := x1a.b q4
 have bw4 := bw3.trans (q4.mono bw3.size)
 have lw4 := q4.size
 clear q4 bw3
 go_wp2_with fail
 (with_reducible refine (r01_cmp_e _ b3 A3 n3 c3 ((Nat.gcd (((val a.num : Int))).natAbs (((val a.den : Int))).natAbs : Nat)) ((k) + (k)) ?_ b4 A4 n4 c4 (1) (1) ?_ s ?_ ?_).mono ?_); (exact h3.iz); (exact h4.iz); (exact HC.out); (have := HK.out; omega); rintro e w5 ⟨rfl, q5⟩
 replace h := h.belw q5
 replace hN := hN.belw q5
 replace hD := hD.belw q5
 replace h3 := h3.belw q5
 replace h4 := h4.belw q5
 replace x1a := x1a.b q5
 have bw5 := bw4.trans (q5.mono bw4.size)
 have lw5 := q5.size
 clear q5 bw4
 go_wp2_with fail
 go_ret
 exact retB (ok_last HC.out HR.out) bw5
theorem g_valid_p1 (w : World) (b : Bool) (A : Option Addr) (n c : Nat) (D : Option Addr) (m e : Nat) (a : RD) (k : Nat) (h : QD w b A n c D m e a k) (hk : k ≤ 300000000) (h1 : 0 < n) (p1 : plainB a.num = false) :
  Calls Tryz.prog 111 #[.agg #[.bool b, .slice A n c, .slice D m e]] w (RetV w (.bool a.ok)) := by
 have HR := Lib.hid (show a.ok = false by rw [gok_0 h (.inl h1), p1]; simp)
 have HP1 := Lib.hid p1
 have e1 : ((n : Int) == 0) = false := by simp; omega
 have HK := Lib.hid hk
 clear h1 hk p1
 go_enter Tryz.func111, Tryz.ntmps111
 go_wp2_with fail
 (with_reducible refine (g_plain_e _ A n c a.num false ?_ ?_ ?_).mono ?_); (exact h.2.1.belw ((Below.refl _ _).alloc (Nat.le_refl _) _)); (exact HP1.out); (have := h.2.2.2.1; have := HK.out; omega); rintro e w1 ⟨rfl, hb1⟩
 have q1 := ((Below.refl _ _).alloc (Nat.le_refl _) _).trans (hb1.mono (by simp))
 replace h := h.belw q1
 have x1a : Blk w1 w.heap.size 39 #[.bool b, .slice A n c, .slice D m e] := (blkAt _ _ _ (by simp)).below hb1 (by simp)
 have bw1 := (brefl w).trans (q1.mono (brefl w).size)
 have lw1 : w.heap.size + 1 ≤ w1.heap.size := by have := hb1.size; simp at this; omega
 clear q1
 go_wp2_with fail
 go_ret
 exact retB HR.out.symm bw1
theorem g_valid_p2 (w : World) (b : Bool) (A : Option Addr) (n c : Nat) (D : Option Addr) (m e : Nat) (a : RD) (k : Nat) (h : QD w b A n c D m e a k) (hk : k ≤ 300000000) (h1 : 0 < n) (p1 : plainB a.num = true) (p2 : plainB a.den = false) :
  Calls Tryz.prog 111 #[.agg #[.bool b, .slice A n c, .slice D m e]] w (RetV w (.bool a.ok)) := by
 have HR := Lib.hid (show a.ok = false by rw [gok_0 h (.inl h1), p1, p2]; simp)
 have HP1 := Lib.hid p1
 have HP2 := Lib.hid p2
 have e1 : ((n : Int) == 0) = false := by simp; omega
 have HK := Lib.hid hk
 clear h1 hk p1 p2
 go_enter Tryz.func111, Tryz.ntmps111
 go_wp2_with fail
 (with_reducible refine (g_plain_e _ A n c a.num true ?_ ?_ ?_).mono ?_); (exact h.2.1.belw ((Below.refl _ _).alloc (Nat.le_refl _) _)); (exact HP1.out); (have := h.2.2.2.1; have := HK.out; omega); rintro e w1 ⟨rfl, hb1⟩
 have q1 := ((Below.refl _ _).alloc (Nat.le_refl _) _).trans (hb1.mono (by simp))
 replace h := h.belw q1
 have x1a : Blk w1 w.heap.size 39 #[.bool b, .slice A n c, .slice D m e] := (blkAt _ _ _ (by simp)).below hb1 (by simp)
 have bw1 := (brefl w).trans (q1.mono (brefl w).size)
 have lw1 : w.heap.size + 1 ≤ w1.heap.size := by have := hb1.size; simp at this; omega
 clear q1
 obtain ⟨cx1aa, cx1ab, cx1ac⟩ := x1a.c3
 obtain ⟨lx1aa, lx1ab, lx1ac, lx1ad⟩ := lts0 x1a.lt
 go_wp2_with fail
 (with_reducible refine (g_plain_e _ D m e a.den false ?_ ?_ ?_).mono ?_); (exact h.2.2.1); (exact HP2.out); (have := h.2.2.2.2; have := HK.out; omega); rintro e w2 ⟨rfl, q2⟩
 clear cx1aa cx1ab cx1ac lx1aa lx1ab lx1ac lx1ad
 replace h := h.belw q2
 replace x1a := x1a.b q2
 have bw2 := bw1.trans (q2.mono bw1.size)
 have lw2 := q2.size
 clear q2 bw1
 go_wp2_with fail
 go_ret
 exact retB HR.out.symm bw2
theorem g_valid_p3 (w : World) (b : Bool) (A : Option Addr) (n c : Nat) (D : Option Addr) (m e : Nat) (a : RD) (k : Nat) (h : QD w b A n c D m e a k) (hk : k ≤ 300000000) (h1 : 0 < n) (p1 : plainB a.num = true) (p2 : plainB a.den = true) :
  Calls Tryz.prog 111 #[.agg #[.bool b, .slice A n c, .slice D m e]] w (RetV w (.bool a.ok)) := by
 have HR := Lib.hid (show a.ok = (Nat.gcd (val a.num) (val a.den) == 1) by rw [gok_0 h (.inl h1), p1, p2]; simp)
 have HP1 := Lib.hid p1
 have HP2 := Lib.hid p2
 have e1 : ((n : Int) == 0) = false := by simp; omega
 have HK := Lib.hid hk
 clear h1 hk p1 p2
 go_enter Tryz.func111, Tryz.ntmps111
 go_wp2_with fail
 obtain ⟨s, hs⟩ : ∃ s, cmpI ((Nat.gcd ((val a.num : Int)).natAbs ((val a.den : Int)).natAbs : Nat)) 1 = s := ⟨_, rfl⟩
 have HC := Lib.hid hs
 clear hs
 have hN := h.num_z (plain_wd HP1.out)
 have hD := h.den_z (plain_wd HP2.out)
 (with_reducible refine (g_plain_e _ A n c a.num true ?_ ?_ ?_).mono ?_); (exact h.2.1.belw ((Below.refl _ _).alloc (Nat.le_refl _) _)); (exact HP1.out); (have := h.2.2.2.1; have := HK.out; omega); rintro e w1 ⟨rfl, hb1⟩
 have q1 := ((Below.refl _ _).alloc (Nat.le_refl _) _).trans (hb1.mono (by simp))
 replace h := h.belw q1
 replace hN := hN.belw q1
 replace hD := hD.belw q1
 have x1a : Blk w1 w.heap.size 39 #[.bool b, .slice A n c, .slice D m e] := (blkAt _ _ _ (by simp)).below hb1 (by simp)
 have bw1 := (brefl w).trans (q1.mono (brefl w).size)
 have lw1 : w.heap.size + 1 ≤ w1.heap.size := by have := hb1.size; simp at this; omega
 clear q1
 obtain ⟨cx1aa, cx1ab, cx1ac⟩ := x1a.c3
 obtain ⟨lx1aa, lx1ab, lx1ac, lx1ad⟩ := lts0 x1a.lt
 go_wp2_with fail
 (with_reducible refine (g_plain_e _ D m e a.den true ?_ ?_ ?_).mono ?_); (exact h.2.2.1); (exact HP2.out); (have := h.2.2.2.2; have := HK.out; omega); rintro e w2 ⟨rfl, q2⟩
 clear cx1aa cx1ab cx1ac lx1aa lx1ab lx1ac lx1ad
 replace h := h.belw q2
 replace hN := hN.belw q2
 replace hD := hD.belw q2
 replace x1a := x1a.b q2
 have bw2 := bw1.trans (q2.mono bw1.size)
 have lw2 := q2.size
 clear q2 bw1
 obtain ⟨cx1aa, cx1ab, cx1ac⟩ := x1a.c3
 obtain ⟨lx1aa, lx1ab, lx1ac, lx1ad⟩ := lts0 x1a.lt
 go_wp2_with fail
 (with_reducible refine (r01_gcd _ false A n c ((val a.num : Int)) (k) ?_ false D m e ((val a.den : Int)) (k) ?_ ?_).mono ?_); (exact hN); (exact hD); (have := HK.out; omega); rintro e w3 ⟨b3, A3, n3, c3, rfl, h3, q3⟩
 clear cx1aa cx1ab cx1ac lx1aa lx1ab lx1ac lx1ad
 replace h := h.belw q3
 replace hN := hN.belw q3
 replace hD := hD.belw q3
 replace x1a := x1a.b q3
 have bw3 := bw2.trans (q3.mono bw2.size)
 have lw3 := q3.size
 clear q3 bw2
 go_wp2_with fail
 (with_reducible refine (g_one _).mono ?_); rintro e w4 ⟨b4, A4, n4, c4, rfl, h4, q4⟩
 replace h := h.belw q4
 replace hN := hN.belw q4
 replace hD := hD.belw q4
 replace h3 := h3.belw q4
 replace x1a := x1a.b q4
 have bw4 := bw3.trans (q4.mono bw3.size)
 have lw4 := q4.size
 clear q4 bw3
 go_wp2_with fail
 (with_reducible refine (r01_cmp_e _ b3 A3 n3 c3 ((Nat.gcd (((val a.num : Int))).natAbs (((val a.den : Int))).natAbs : Nat)) ((k) + (k)) ?_ b4 A4 n4 c4 (1) (1) ?_ s ?_ ?_).mono ?_); (exact h3.iz); (exact h4.iz); (exact HC.out); (have := HK.out; omega); rintro e w5 ⟨rfl, q5⟩
 replace h := h.belw q5
 replace hN := hN.belw q5
 replace hD := hD.belw q5
 replace h3 := h3.belw q5
 replace h4 := h4.belw q5
 replace x1a := x1a.b q5
 have bw5 := bw4.trans (q5.mono bw4.size)
 have lw5 := q5.size
 clear q5 bw4
 go_wp2_with fail
 go_ret
 exact retB (ok_last HC.out HR.out) bw5
theorem g_valid (w : World) (b : Bool) (A : Option Addr) (n c : Nat) (D : Option Addr) (m e : Nat) (a : RD) (k : Nat) (h : QD w b A n c D m e a k) (hk : k ≤ 300000000) : Calls Tryz.prog 111 #[.agg #[.bool b, .slice A n c, .slice D m e]] w (RetV w (.bool a.ok)) := by
  rcases Nat.eq_zero_or_pos n with h1 | h1
  · rcases Nat.eq_zero_or_pos m with h2 | h2
    · exact g_valid_0 w b A n c D m e a k h hk h1 h2
    · cases p1 : plainB a.num
      · exact g_valid_z1 w b A n c D m e a k h hk h1 h2 p1
      · cases p2 : plainB a.den
        · exact g_valid_z2 w b A n c D m e a k h hk h1 h2 p1 p2
        · exact g_valid_z3 w b A n c D m e a k h hk h1 h2 p1 p2
  · cases p1 : plainB a.num
    · exact g_valid_p1 w b A n c D m e a k h hk h1 p1
    · cases p2 : plainB a.den
      · exact g_valid_p2 w b A n c D m e a k h hk h1 p1 p2
      · exact g_valid_p3 w b A n c D m e a k h hk h1 p1 p2
end Go.Proofs.YtfbigmdpdcpkfaaGreatDoor

namespace Go.Proofs.YtfbigmdpdcpkfaaGreatDoor
open Go Go.RowKit Bn
attribute [local go_sem ↓] Go.wp_at_zero Go.wp_at_succ

section
variable {w : World} {b : Bool} {A : Option Addr} {n c : Nat} {D : Option Addr} {m e : Nat} {a : RD} {k : Nat}
theorem q_bad (h : a.ok = false ∨ a.num = []) : a.q.num = 0 ∧ (a.q.den : Int) = 1 := by
  have e1 : (a.ok && a.num != []) = false := by rcases h with h | h <;> simp [h]
  have e2 : a.q = 0 := by unfold RD.q RD.n RD.d; rw [e1]; simp
  rw [e2]; exact ⟨rfl, rfl⟩
theorem q_ok (hn : Wds a.num) (hd : Wds a.den) (ho : a.ok = true) (h0 : a.num ≠ []) : a.num = (wh a.q.num).mag ∧ a.neg = (wh a.q.num).neg ∧ a.den = (wh (a.q.den : Int)).mag := by
  have h1 := rd_of_ok hn hd ho
  have h2 : a.q.num ≠ 0 := by
    intro e
    have : (rd a.q).num = [] := by unfold rd; simp [e, digs_zero]
    rw [h1] at this; exact h0 this
  have h3 : (rd a.q).den = digs a.q.den := by unfold rd; simp [h2]
  refine ⟨?_, ?_, ?_⟩
  · have : (rd a.q).num = digs a.q.num.natAbs := rfl
    rw [h1] at this; exact this
  · have : (rd a.q).neg = decide (a.q.num < 0) := rfl
    rw [h1] at this; exact this
  · rw [h1] at h3; exact h3
end
end Go.Proofs.YtfbigmdpdcpkfaaGreatDoor

namespace Go.Proofs.YtfbigmdpdcpkfaaGreatDoor
open Go Go.RowKit Bn
section
variable {w w' : World} {g : Nat} {cs : Array Value}
end
section
variable {w w' : World} {b x : Bool} {A D : Option Addr} {n c m e k j : Nat} {q : Rat} {t : TN}
theorem QK.qz (h : QK w b A n c D m e q k) : QZ w b A n c D m e q k := by obtain ⟨a, h1, h2, _⟩ := h; exact ⟨a, h1, h2⟩
theorem TK.qz (h : TK w b A n c D m e x t k) : QZ w b A n c D m e t.t k := h.1.qz
theorem TV.qz (h : TV w b A n c D m e x t k) : QZ w b A n c D m e t.t k := h.1.qz
end
end Go.Proofs.YtfbigmdpdcpkfaaGreatDoor

namespace Go.Proofs.YtfbigmdpdcpkfaaGreatDoor
open Go Go.RowKit Bn

theorem count_set_lt {l : List Bool} {i : Nat} (h : l[i]? = some false) : (l.set i true).count false + 1 = l.count false := by
  induction l generalizing i with
  | nil => simp at h
  | cons b l ih =>
    cases i with
    | zero => simp at h; subst h; simp
    | succ i =>
      simp only [List.getElem?_cons_succ] at h
      have := ih h
      simp only [List.set_cons_succ, List.count_cons]
      omega
section
variable {P : Program} {ops : Array Oper} {Q : Exit → Act → World → Prop} {md : Region.Mode}
theorem ready_get {L : Array Bool} {i : Nat} (h : i ∈ Region.ready md ops L) : L.toList[i]? = some false := by
  have h1 := (mem_ready.1 h).1
  rcases Nat.lt_or_ge i L.size with h2 | h2
  · rw [Array.getD_eq_getD_getElem?, Array.getElem?_eq_getElem h2] at h1
    simp only [Option.getD_some] at h1
    rw [Array.getElem?_toList, Array.getElem?_eq_getElem h2, h1]
  · rw [Array.getD_eq_getD_getElem?, Array.getElem?_eq_none h2] at h1; cases h1
theorem wpAny_inv (A : Array Bool → Act → World → Prop)
    (hstep : ∀ L a w i, L.size = ops.size → i ∈ Region.ready md ops L → A L a w → wpOp P ops Q i (A (L.setIfInBounds i true)) a w)
    (hend : ∀ L a w, L.size = ops.size → Region.ready md ops L = [] → A L a w → Q .normal a w) :
    ∀ (fuel : Nat) (L : Array Bool) (a : Act) (w : World), L.size = ops.size → L.toList.count false ≤ fuel → A L a w → wpAny P md ops Q fuel L a w := by
  intro fuel
  induction fuel with
  | zero =>
    intro L a w hs hc hA
    have hr : Region.ready md ops L = [] := by
      cases hr : Region.ready md ops L with
      | nil => rfl
      | cons i r =>
        have h1 := ready_get (md := md) (ops := ops) (L := L) (i := i) (by rw [hr]; simp)
        have h2 := count_set_lt h1
        omega
    exact ⟨hr, hend L a w hs hr hA⟩
  | succ fuel ih =>
    intro L a w hs hc hA
    refine ⟨fun hr => hend L a w hs hr hA, fun i hi => wpOp_mono (fun a' w' h' => ih _ _ _ (by simpa using hs) ?_ h') (hstep L a w i hs hi hA)⟩
    have h2 := count_set_lt (ready_get hi)
    rw [Array.toList_setIfInBounds]
    omega
end
def setFrom (w : World) (g : Nat) : Nat → List Value → World
  | _, [] => w
  | i, u :: us => setFrom (w.setCell ⟨g, i, none⟩ u) g (i + 1) us
def setL (c : Array Value) : Nat → List Value → Array Value
  | _, [] => c
  | i, u :: us => setL (c.setIfInBounds i u) (i + 1) us
section
variable {g : Nat} {t : TypeId}
theorem setFrom_kp (ht : KT t = false) : ∀ (us : List Value) (i : Nat) (w : World) (c : Array Value), Blk w g t c → Kp w (setFrom w g i us) := by
  intro us
  induction us with
  | nil => intro i w c _; exact Kp.refl w
  | cons u us ih =>
    intro i w c h
    exact ((Kp.refl w).setB (p := ⟨g, i, none⟩) h.box ht u).trans (ih (i + 1) _ _ (h.set_ i u))
theorem setFrom_blk : ∀ (us : List Value) (i : Nat) (w : World) (c : Array Value), Blk w g t c → Blk (setFrom w g i us) g t (setL c i us) := by
  intro us
  induction us with
  | nil => intro i w c h; exact h
  | cons u us ih => intro i w c h; exact ih (i + 1) _ _ (h.set_ i u)
theorem setFrom_far {g' : Nat} {t' : TypeId} {c' : Array Value} (hg : g' ≠ g) : ∀ (us : List Value) (i : Nat) (w : World), Blk w g' t' c' → Blk (setFrom w g i us) g' t' c' := by
  intro us
  induction us with
  | nil => intro i w h; exact h
  | cons u us ih => intro i w h; exact ih (i + 1) _ (h.far hg u)
theorem setFrom_below {B : Nat} {a : World} (hg : B ≤ g) : ∀ (us : List Value) (i : Nat) (w : World), Below B a w → Below B a (setFrom w g i us) := by
  intro us
  induction us with
  | nil => intro i w h; exact h
  | cons u us ih => intro i w h; exact ih (i + 1) _ (h.setCell (p := ⟨g, i, none⟩) hg u)
end
theorem setFrom_size {g : Nat} : ∀ (us : List Value) (i : Nat) (w : World), (setFrom w g i us).heap.size = w.heap.size := by
  intro us
  induction us with
  | nil => intro i w; rfl
  | cons u us ih => intro i w; rw [setFrom, ih]; simp [World.setCell]
def upd (x : Nat → Value) (i : Nat) (v : Value) : Nat → Value := fun j => if j = i then v else x j
theorem upd_same (x : Nat → Value) (i : Nat) (v : Value) : upd x i v i = v := by simp [upd]
theorem upd_ne (x : Nat → Value) {i j : Nat} (v : Value) (h : j ≠ i) : upd x i v j = x j := by simp [upd, h]

def LinA (ops : Array Oper) (fr : (Nat → Value) → Act) (R : Nat → Value → World → Prop) (es : List Flt) (ow : List Own) (B : Nat) (W : World) (L : Array Bool) (a : Act) (w : World) : Prop :=
  ∃ x, a = fr x ∧ (Kp W w ∧ Below B W w) ∧ (∀ i, L.getD i false = true → R i (x i) w) ∧
  (∀ i o, ops[i]? = some o → L.getD i false = true → ∀ e ∈ o.after, Region.binds .any e = true → L.getD e.on false = true) ∧
  (∀ f ∈ es, L.getD f.a false = true → ∃ g c, x f.a = .pointer (some ⟨g, 0, none⟩) ∧ W.heap.size ≤ g ∧ Blk w g f.T c ∧ (L.getD f.s false = false → c = f.Z) ∧ (L.getD f.s false = true → f.PS c w)) ∧
  (∀ f ∈ es, ∀ f' ∈ es, f.a ≠ f'.a → L.getD f.a false = true → L.getD f'.a false = true → x f.a ≠ x f'.a) ∧
  (∀ f ∈ ow, ∃ c, Blk w f.g f.T c ∧ (L.getD f.s false = false → c = f.Z) ∧ (L.getD f.s false = true → f.PS c w))

section
variable (P : Program) (ops : Array Oper) (Q : Exit → Act → World → Prop) (fr : (Nat → Value) → Act) (R : Nat → Value → World → Prop) (es : List Flt) (ow : List Own) (B : Nat) (W : World)
def ValStep (i : Nat) (o : Oper) : Prop := (∀ f ∈ es, i ≠ f.a ∧ i ≠ f.s) ∧ (∀ f ∈ ow, i ≠ f.s) ∧
  ∀ x w, Kp W w → (∀ f ∈ ow, (∀ o', ops[f.s]? = some o' → ∃ e ∈ o'.after, Region.binds .any e = true ∧ e.on = i) → Blk w f.g f.T f.Z) → (∀ e ∈ o.after, Region.binds .any e = true → R e.on (x e.on) w) → ∀ K' : Act → World → Prop, Shut (∀ v w', R i v w' → Below w.heap.size w w' → K' ((fr x).put o.dst v) w') →
    if Region.wanted o (yielded ops (fr x).tmps) = true then Oper.wp P o (fr x) w K' Q else K' ((fr x).put o.dst undef) w
def AllocStep (i : Nat) (o : Oper) : Prop := ∃ f ∈ es, i = f.a ∧ (∀ f' ∈ es, i ≠ f'.s) ∧ (∀ f' ∈ ow, i ≠ f'.s) ∧ (∀ f' ∈ es, f'.a = i → f' = f) ∧ (∀ v w, R i v w) ∧
  ∀ x w, ∀ K' : Act → World → Prop, Shut (K' ((fr x).put o.dst (.pointer (some ⟨w.heap.size, 0, none⟩))) (w.alloc (.cells f.Z f.T))) →
    if Region.wanted o (yielded ops (fr x).tmps) = true then Oper.wp P o (fr x) w K' Q else K' ((fr x).put o.dst undef) w
def StoreStep (i : Nat) (o : Oper) : Prop := ∃ f ∈ es, i = f.s ∧ (∀ f' ∈ es, i ≠ f'.a) ∧ (∀ f' ∈ ow, i ≠ f'.s) ∧ (∀ f' ∈ es, f'.s = i → f' = f) ∧ (∀ f' ∈ es, f'.a = f.a → f' = f) ∧ KT f.T = false ∧ (∀ v w, R i v w) ∧ (∃ e ∈ o.after, Region.binds .any e = true ∧ e.on = f.a) ∧
  ∀ x w g, x f.a = .pointer (some ⟨g, 0, none⟩) → Blk w g f.T f.Z → (∀ e ∈ o.after, Region.binds .any e = true → R e.on (x e.on) w) →
    ∃ us, (∀ w', Kp w w' → f.PS (setL f.Z 0 us) w') ∧ ∀ K' : Act → World → Prop, Shut (∀ v, K' ((fr x).put o.dst v) (setFrom w g 0 us)) →
      if Region.wanted o (yielded ops (fr x).tmps) = true then Oper.wp P o (fr x) w K' Q else K' ((fr x).put o.dst undef) w
def OwnStep (i : Nat) (o : Oper) : Prop := ∃ f ∈ ow, i = f.s ∧ (∀ f' ∈ es, i ≠ f'.a ∧ i ≠ f'.s) ∧ (∀ f' ∈ ow, f'.s = i → f' = f) ∧ KT f.T = false ∧ (∀ v w, R i v w) ∧
  ∀ x w, Blk w f.g f.T f.Z → (∀ e ∈ o.after, Region.binds .any e = true → R e.on (x e.on) w) →
    ∃ us, (∀ w', Kp w w' → f.PS (setL f.Z f.o us) w') ∧ ∀ K' : Act → World → Prop, Shut (∀ v, K' ((fr x).put o.dst v) (setFrom w f.g f.o us)) →
      if Region.wanted o (yielded ops (fr x).tmps) = true then Oper.wp P o (fr x) w K' Q else K' ((fr x).put o.dst undef) w
end
theorem getD_set {L : Array Bool} {i j : Nat} (hi : i < L.size) : (L.setIfInBounds i true).getD j false = (decide (j = i) || L.getD j false) := by
  rw [Array.getD_eq_getD_getElem?, Array.getD_eq_getD_getElem?, Array.getElem?_setIfInBounds]
  by_cases h : i = j
  · subst h; simp [hi]
  · rw [if_neg h]; simp [show ¬ j = i from fun e => h e.symm]
section
variable {P : Program} {ops : Array Oper} {Q : Exit → Act → World → Prop} {fr : (Nat → Value) → Act} {R : Nat → Value → World → Prop} {es : List Flt} {ow : List Own} {B : Nat}
theorem wp_region_lin {id : Nat} {w : World} {x0 : Nat → Value} (hm : P.follows .mixedOrders = true)
    (hput : ∀ i o, ops[i]? = some o → ∀ x v, (fr x).put o.dst v = fr (upd x i v))
    (hac : ∀ i o, ops[i]? = some o → ∀ e ∈ o.after, Region.binds .any e = true → e.on < i)
    (hR : ∀ i v w w', R i v w → Kp w w' → R i v w')
    (hPS : ∀ f ∈ es, ∀ c w w', f.PS c w → Kp w w' → f.PS c w')
    (hPO : ∀ f ∈ ow, ∀ c w w', f.PS c w → Kp w w' → f.PS c w')
    (hfs : ∀ f ∈ es, f.a < ops.size ∧ f.s < ops.size)
    (hB : B ≤ w.heap.size)
    (hO : ∀ f ∈ ow, Blk w f.g f.T f.Z ∧ B ≤ f.g)
    (hOd : ∀ f ∈ ow, ∀ f' ∈ ow, f.g = f'.g → f = f')
    (hstep : ∀ i o, ops[i]? = some o → ValStep P ops Q fr R es ow w i o ∨ AllocStep P ops Q fr R es ow i o ∨ StoreStep P ops Q fr R es ow i o ∨ OwnStep P ops Q fr R es ow i o)
    (hend : ∀ x w', Kp w w' → Below B w w' → w.heap.size ≤ w'.heap.size → (∀ f ∈ ow, ∃ c, Blk w' f.g f.T c ∧ (ops.size ≤ f.s → c = f.Z) ∧ (f.s < ops.size → f.PS c w')) → (∀ i, i < ops.size → R i (x i) w') → (∀ f ∈ es, ∃ g c, x f.a = .pointer (some ⟨g, 0, none⟩) ∧ w.heap.size ≤ g ∧ Blk w' g f.T c ∧ f.PS c w') → (∀ f ∈ es, ∀ f' ∈ es, f.a ≠ f'.a → x f.a ≠ x f'.a) → Q .normal (fr x) w') :
    (Code.region id ops true).wp P Q (fr x0) w := by
  refine wp_region_any hm (wpAny_inv (fun L a w' => w.heap.size ≤ w'.heap.size ∧ LinA ops fr R es ow B w L a w') ?_ ?_ _ _ _ _ (by simp) ?_ ?_)
  · rintro L a w1 i hs hi ⟨hsz, x, rfl, ⟨hkW, hb⟩, hr, hcl, hf, hd, how⟩
    obtain ⟨hun, o, ho, hall⟩ := mem_ready.1 hi
    have hlt : i < L.size := by
      rcases Nat.lt_or_ge i L.size with h | h
      · exact h
      · rw [Array.getD_eq_getD_getElem?, Array.getElem?_eq_none h] at hun; cases hun
    have hunf : L.getD i false = false := by
      rw [Array.getD_eq_getD_getElem?, Array.getElem?_eq_getElem hlt] at hun ⊢; exact hun
    have hdep : ∀ e ∈ o.after, Region.binds .any e = true → R e.on (x e.on) w1 := fun e he hbd => hr _ (hall e he hbd)
    have hcl' : ∀ i' o', ops[i']? = some o' → (L.setIfInBounds i true).getD i' false = true → ∀ e ∈ o'.after, Region.binds .any e = true → (L.setIfInBounds i true).getD e.on false = true := by
      intro i' o' ho' hl e he hbd
      rw [getD_set hlt] at hl ⊢
      by_cases h : i' = i
      · subst h; rw [ho] at ho'; injection ho' with ho'; subst ho'
        rw [hall e he hbd]; simp
      · have : L.getD i' false = true := by simpa [h] using hl
        rw [hcl i' o' ho' this e he hbd]; simp
    refine wpOp_step ho fun K' hK => ?_
    have hsno : ∀ f ∈ ow, (∀ o', ops[f.s]? = some o' → ∃ e ∈ o'.after, Region.binds .any e = true ∧ e.on = i) → Blk w1 f.g f.T f.Z := by
      intro f hfo hdd
      obtain ⟨c, c1, c2, _⟩ := how f hfo
      have : L.getD f.s false = false := by
        cases h : L.getD f.s false
        · rfl
        · exfalso
          have hlt2 : f.s < ops.size := by
            rcases Nat.lt_or_ge f.s L.size with h2 | h2
            · omega
            · rw [Array.getD_eq_getD_getElem?, Array.getElem?_eq_none h2] at h; cases h
          obtain ⟨e, he, hbd, hea⟩ := hdd _ (Array.getElem?_eq_getElem hlt2)
          have := hcl f.s _ (Array.getElem?_eq_getElem hlt2) h e he hbd
          rw [hea, hunf] at this; cases this
      rw [← c2 this]; exact c1
    have howk : ∀ w', Kp w1 w' → (∀ g t c, Blk w1 g t c → (∃ f ∈ ow, f.g = g) → Blk w' g t c) → (∀ f ∈ ow, i ≠ f.s) → ∀ f ∈ ow, ∃ c, Blk w' f.g f.T c ∧ ((L.setIfInBounds i true).getD f.s false = false → c = f.Z) ∧ ((L.setIfInBounds i true).getD f.s false = true → f.PS c w') := by
      intro w' hkp hbl hne f hfo
      obtain ⟨c, c1, c2, c3⟩ := how f hfo
      have n2 := hne f hfo
      refine ⟨c, hbl _ _ _ c1 ⟨f, hfo, rfl⟩, fun h => c2 ?_, fun h => hPO f hfo _ _ _ (c3 ?_) hkp⟩
      · rw [getD_set hlt] at h; simpa [Ne.symm n2] using h
      · rw [getD_set hlt] at h; simpa [Ne.symm n2] using h
    rcases hstep i o ho with ⟨hno, hnow, hv⟩ | ⟨f, hf1, rfl, hnos, hnow, huniq, hRi, hv⟩ | ⟨f, hf1, rfl, hnoa, hnow, huniq, huniqa, hT, hRi, ⟨e, he, hbd, hea⟩, hv⟩ | ⟨f, hf1, rfl, hnoe, huniq, hT, hRi, hv⟩
    · refine hv x w1 hkW hsno hdep K' (fun v w' hRv hbw => hK _ _ ?_)
      have hkp : Kp w1 w' := (Kp.refl w1).below hbw
      refine ⟨Nat.le_trans hsz hbw.size, upd x i v, hput i o ho x v, ⟨hkW.trans hkp, hb.trans (hbw.mono (Nat.le_trans hB hsz))⟩, fun j hj => ?_, hcl', fun f hfe hfa => ?_, fun f hfe f' hfe' hne h1 h2 => ?_, howk w' hkp (fun g t c h _ => h.below hbw h.lt) hnow⟩
      · by_cases h : j = i
        · subst h; rw [upd_same]; exact hRv
        · rw [upd_ne _ _ h]; rw [getD_set hlt] at hj; exact hR _ _ _ _ (hr j (by simpa [h] using hj)) hkp
      · rw [getD_set hlt] at hfa
        have n1 := (hno f hfe).1
        have n2 := (hno f hfe).2
        rw [upd_ne _ _ (Ne.symm n1)]
        obtain ⟨g, c, e1, e2, e3, e4, e5⟩ := hf f hfe (by simpa [Ne.symm n1] using hfa)
        refine ⟨g, c, e1, e2, e3.below hbw e3.lt, fun h => e4 ?_, fun h => hPS f hfe _ _ _ (e5 ?_) hkp⟩
        · rw [getD_set hlt] at h; simpa [Ne.symm n2] using h
        · rw [getD_set hlt] at h; simpa [Ne.symm n2] using h
      · rw [getD_set hlt] at h1 h2
        have n1 := (hno f hfe).1
        have n2 := (hno f' hfe').1
        rw [upd_ne _ _ (Ne.symm n1), upd_ne _ _ (Ne.symm n2)]
        exact hd f hfe f' hfe' hne (by simpa [Ne.symm n1] using h1) (by simpa [Ne.symm n2] using h2)
    · refine hv x w1 K' (hK _ _ ?_)
      have hkp : Kp w1 (w1.alloc (.cells f.Z f.T)) := (Kp.refl w1).alloc _
      have hsl : L.getD f.s false = false := by
        cases h : L.getD f.s false
        · rfl
        · exfalso
          obtain ⟨o', ho'⟩ : ∃ o', ops[f.s]? = some o' := ⟨_, Array.getElem?_eq_getElem (hfs f hf1).2⟩
          rcases hstep f.s o' ho' with ⟨hno, _⟩ | ⟨f2, hf2, e2, hnos2, _⟩ | ⟨f2, hf2, e2, _, _, hu2, _, _, _, ⟨e, he, hbd, hea⟩, _⟩ | ⟨f2, hf2, e2, hno2, _⟩
          · exact (hno f hf1).2 rfl
          · exact hnos2 f hf1 rfl
          · have := hu2 f hf1 rfl
            subst this
            have := hcl f.s o' ho' h e he hbd
            rw [hea] at this
            rw [this] at hunf; cases hunf
          · exact (hno2 f hf1).2 rfl
      refine ⟨by simp; omega, upd x f.a _, hput f.a o ho x _, ⟨hkW.alloc _, hb.alloc (Nat.le_trans hB hsz) _⟩, fun j hj => ?_, hcl', fun f' hfe hfa => ?_, fun f1 hfe f2 hfe' hne h1 h2 => ?_, howk _ hkp (fun g t c h _ => h.alloc _) hnow⟩
      · by_cases h : j = f.a
        · subst h; exact hRi _ _
        · rw [upd_ne _ _ h]; rw [getD_set hlt] at hj; exact hR _ _ _ _ (hr j (by simpa [h] using hj)) hkp
      · by_cases h : f'.a = f.a
        · have := huniq f' hfe h
          subst this
          rw [upd_same]
          refine ⟨_, _, rfl, hsz, Blk.new _ _ _, fun _ => rfl, fun h' => ?_⟩
          rw [getD_set hlt, hsl] at h'
          have : f'.s = f'.a := by simpa using h'
          exact absurd this.symm (hnos f' hfe)
        · rw [upd_ne _ _ h]
          rw [getD_set hlt] at hfa
          have n2 := hnos f' hfe
          obtain ⟨g, c, e1, e2, e3, e4, e5⟩ := hf f' hfe (by simpa [h] using hfa)
          refine ⟨g, c, e1, e2, e3.alloc _, fun h => e4 ?_, fun h => hPS f' hfe _ _ _ (e5 ?_) hkp⟩
          · rw [getD_set hlt] at h; simpa [Ne.symm n2] using h
          · rw [getD_set hlt] at h; simpa [Ne.symm n2] using h
      · rw [getD_set hlt] at h1 h2
        have fresh : ∀ f3 ∈ es, f3.a ≠ f.a → L.getD f3.a false = true → x f3.a ≠ .pointer (some ⟨w1.heap.size, 0, none⟩) := by
          intro f3 h3 hne3 hl3 heq
          obtain ⟨g, c, e1, e2, e3, _⟩ := hf f3 h3 hl3
          rw [e1] at heq
          have hg := e3.lt
          injection heq with heq; injection heq with heq; injection heq with heq
          omega
        by_cases c1 : f1.a = f.a
        · have c2 : f2.a ≠ f.a := fun h => hne (c1.trans h.symm)
          rw [c1, upd_same, upd_ne _ _ c2]
          exact (fresh f2 hfe' c2 (by simpa [c2] using h2)).symm
        · rw [upd_ne _ _ c1]
          by_cases c2 : f2.a = f.a
          · rw [c2, upd_same]; exact fresh f1 hfe c1 (by simpa [c1] using h1)
          · rw [upd_ne _ _ c2]; exact hd f1 hfe f2 hfe' hne (by simpa [c1] using h1) (by simpa [c2] using h2)
    · have hal : L.getD f.a false = true := by rw [← hea]; exact hall e he hbd
      obtain ⟨g, c, e1, e2, e3, e4, e5⟩ := hf f hf1 hal
      have hc := e4 hunf
      subst hc
      obtain ⟨us, hus, hv⟩ := hv x w1 g e1 e3 hdep
      refine hv K' (fun v => hK _ _ ?_)
      have hkp : Kp w1 (setFrom w1 g 0 us) := setFrom_kp hT us 0 w1 _ e3
      have hnb : ∀ f3 ∈ es, f3.a ≠ f.s := fun f3 h3 h => hnoa f3 h3 h.symm
      refine ⟨Nat.le_trans hsz (Nat.le_of_eq (setFrom_size us 0 w1).symm), upd x f.s v, hput f.s o ho x v, ⟨hkW.trans hkp, setFrom_below (Nat.le_trans hB e2) us 0 w1 hb⟩, fun j hj => ?_, hcl', fun f' hfe hfa => ?_, fun f1 hfe f2 hfe' hne h1 h2 => ?_, howk _ hkp (fun g2 t c h hex => setFrom_far (by obtain ⟨f2, h2, rfl⟩ := hex; have := (hO f2 h2).1.lt; omega) us 0 w1 h) hnow⟩
      · by_cases h : j = f.s
        · subst h; exact hRi _ _
        · rw [upd_ne _ _ h]; rw [getD_set hlt] at hj; exact hR _ _ _ _ (hr j (by simpa [h] using hj)) hkp
      · rw [upd_ne _ _ (hnb f' hfe)]
        rw [getD_set hlt] at hfa
        by_cases h : f'.a = f.a
        · have := huniqa f' hfe h
          subst this
          refine ⟨g, _, e1, e2, setFrom_blk us 0 w1 _ e3, fun h' => ?_, fun _ => hus _ hkp⟩
          rw [getD_set hlt] at h'; simp at h'
        · have n2 : f'.s ≠ f.s := fun h2 => h (by rw [huniq f' hfe h2])
          obtain ⟨g', c', d1, d2, d3, d4, d5⟩ := hf f' hfe (by simpa [hnb f' hfe] using hfa)
          have hgg : g' ≠ g := by
            rintro rfl
            exact hd f' hfe f hf1 h (by simpa [hnb f' hfe] using hfa) hal (d1.trans e1.symm)
          refine ⟨g', c', d1, d2, setFrom_far hgg us 0 w1 d3, fun h => d4 ?_, fun h => hPS f' hfe _ _ _ (d5 ?_) hkp⟩
          · rw [getD_set hlt] at h; simpa [n2] using h
          · rw [getD_set hlt] at h; simpa [n2] using h
      · rw [getD_set hlt] at h1 h2
        rw [upd_ne _ _ (hnb f1 hfe), upd_ne _ _ (hnb f2 hfe')]
        exact hd f1 hfe f2 hfe' hne (by simpa [hnb f1 hfe] using h1) (by simpa [hnb f2 hfe'] using h2)
    · obtain ⟨c, c1, c2, _⟩ := how f hf1
      have hc := c2 hunf
      subst hc
      obtain ⟨us, hus, hv⟩ := hv x w1 c1 hdep
      refine hv K' (fun v => hK _ _ ?_)
      have hkp : Kp w1 (setFrom w1 f.g f.o us) := setFrom_kp hT us f.o w1 _ c1
      have hna : ∀ f3 ∈ es, f3.a ≠ f.s := fun f3 h3 h => (hnoe f3 h3).1 h.symm
      have hns : ∀ f3 ∈ es, f3.s ≠ f.s := fun f3 h3 h => (hnoe f3 h3).2 h.symm
      have hgl := (hO f hf1).1.lt
      refine ⟨Nat.le_trans hsz (Nat.le_of_eq (setFrom_size us f.o w1).symm), upd x f.s v, hput f.s o ho x v, ⟨hkW.trans hkp, setFrom_below (hO f hf1).2 us f.o w1 hb⟩, fun j hj => ?_, hcl', fun f' hfe hfa => ?_, fun f1 hfe f2 hfe' hne h1 h2 => ?_, fun f' hfo => ?_⟩
      · by_cases h : j = f.s
        · subst h; exact hRi _ _
        · rw [upd_ne _ _ h]; rw [getD_set hlt] at hj; exact hR _ _ _ _ (hr j (by simpa [h] using hj)) hkp
      · rw [upd_ne _ _ (hna f' hfe)]
        rw [getD_set hlt] at hfa
        have n2 := hns f' hfe
        obtain ⟨g', c', d1, d2, d3, d4, d5⟩ := hf f' hfe (by simpa [hna f' hfe] using hfa)
        refine ⟨g', c', d1, d2, setFrom_far (by omega) us f.o w1 d3, fun h => d4 ?_, fun h => hPS f' hfe _ _ _ (d5 ?_) hkp⟩
        · rw [getD_set hlt] at h; simpa [n2] using h
        · rw [getD_set hlt] at h; simpa [n2] using h
      · rw [getD_set hlt] at h1 h2
        rw [upd_ne _ _ (hna f1 hfe), upd_ne _ _ (hna f2 hfe')]
        exact hd f1 hfe f2 hfe' hne (by simpa [hna f1 hfe] using h1) (by simpa [hna f2 hfe'] using h2)
      · by_cases h : f'.s = f.s
        · have := huniq f' hfo h
          subst this
          refine ⟨_, setFrom_blk us f'.o w1 _ c1, fun h' => ?_, fun _ => hus _ hkp⟩
          rw [getD_set hlt] at h'; simp at h'
        · obtain ⟨c', d3, d4, d5⟩ := how f' hfo
          have hgg : f'.g ≠ f.g := fun h2 => h (by rw [hOd f' hfo f hf1 h2])
          refine ⟨c', setFrom_far hgg us f.o w1 d3, fun h2 => d4 ?_, fun h2 => hPO f' hfo _ _ _ (d5 ?_) hkp⟩
          · rw [getD_set hlt] at h2; simpa [h] using h2
          · rw [getD_set hlt] at h2; simpa [h] using h2
  · rintro L a w1 hs hr0 ⟨hsz, x, rfl, ⟨hkW, hb⟩, hr, hcl, hf, hd, how⟩
    have hallL : ∀ i, i < ops.size → L.getD i false = true := by
      intro i
      induction i using Nat.strongRecOn with
      | ind i ih =>
        intro hi
        cases h : L.getD i false
        · exfalso
          have : i ∈ Region.ready .any ops L := by
            refine mem_ready.2 ⟨?_, ops[i], Array.getElem?_eq_getElem hi, fun e he hbd => ?_⟩
            · rw [Array.getD_eq_getD_getElem?, Array.getElem?_eq_getElem (by omega)] at h ⊢; exact h
            · have h1 := hac i _ (Array.getElem?_eq_getElem hi) e he hbd
              exact ih e.on h1 (by omega)
          rw [hr0] at this; cases this
        · rfl
    refine hend x w1 hkW hb hsz (fun f hfo => ?_) (fun i hi => hr i (hallL i hi)) (fun f hfe => ?_) (fun f hfe f' hfe' hne => hd f hfe f' hfe' hne (hallL _ (hfs f hfe).1) (hallL _ (hfs f' hfe').1))
    · obtain ⟨c, c1, c2, c3⟩ := how f hfo
      refine ⟨c, c1, fun h => c2 ?_, fun h => c3 (hallL _ h)⟩
      rw [Array.getD_eq_getD_getElem?, Array.getElem?_eq_none (by omega)]; rfl
    obtain ⟨g, c, e1, e2, e3, _, e5⟩ := hf f hfe (hallL _ (hfs f hfe).1)
    exact ⟨g, c, e1, e2, e3, e5 (hallL _ (hfs f hfe).2)⟩
  · simp
  · have hz : ∀ j, (Array.replicate ops.size false).getD j false = false := by
      intro j; rw [Array.getD_eq_getD_getElem?, Array.getElem?_replicate]; split <;> rfl
    refine ⟨Nat.le_refl _, x0, rfl, ⟨(Kp.refl w).drew, (Below.refl B w).drew⟩, fun i h => ?_, fun i o _ h => ?_, fun f _ h => ?_, fun f _ f' _ _ h => ?_, fun f hfo => ⟨_, (hO f hfo).1.drew, fun _ => rfl, fun h => ?_⟩⟩ <;> rw [hz] at h <;> cases h
end

theorem ownDist {ow : List Own} (h : ow.Pairwise (fun f f' => f.g ≠ f'.g)) : ∀ f ∈ ow, ∀ f' ∈ ow, f.g = f'.g → f = f' := by
  induction ow with
  | nil => intro f hf; cases hf
  | cons a l ih =>
    obtain ⟨h1, h2⟩ := List.pairwise_cons.1 h
    intro f hf f' hf' he
    rcases List.mem_cons.1 hf with h3 | h3
    · rcases List.mem_cons.1 hf' with h4 | h4
      · rw [h3, h4]
      · exact absurd (h3 ▸ he) (h1 _ h4)
    · rcases List.mem_cons.1 hf' with h4 | h4
      · exact absurd (h4 ▸ he).symm (h1 _ h3)
      · exact ih h2 f h3 f' h4 he
def EachFrom (S : Nat → Oper → Prop) : Nat → List Oper → Prop
  | _, [] => True
  | k, o :: l => S k o ∧ EachFrom S (k + 1) l
theorem each_from {S : Nat → Oper → Prop} : ∀ (l : List Oper) (k : Nat), EachFrom S k l → ∀ i o, l[i]? = some o → S (k + i) o := by
  intro l
  induction l with
  | nil => intro k _ i o h; simp at h
  | cons a l ih =>
    intro k h i o ho
    cases i with
    | zero => simp at ho; subst ho; exact h.1
    | succ i =>
      have := ih (k + 1) h.2 i o (by simpa using ho)
      rw [show k + (i + 1) = k + 1 + i by omega]; exact this
theorem each_of {S : Nat → Oper → Prop} {l : List Oper} (h : EachFrom S 0 l) : ∀ i o, (l.toArray)[i]? = some o → S i o := fun i o ho => by
  have := each_from l 0 h i o (by simpa using ho)
  rwa [Nat.zero_add] at this
def acycB : Nat → List Oper → Bool
  | _, [] => true
  | k, o :: l => o.after.all (fun e => !Region.binds .any e || decide (e.on < k)) && acycB (k + 1) l
theorem acyc_from : ∀ (l : List Oper) (k : Nat), acycB k l = true → EachFrom (fun i o => ∀ e ∈ o.after, Region.binds .any e = true → e.on < i) k l := by
  intro l
  induction l with
  | nil => intro k _; trivial
  | cons a l ih =>
    intro k h
    simp only [acycB, Bool.and_eq_true] at h
    refine ⟨fun e he hb => ?_, ih _ h.2⟩
    have := (Array.all_eq_true_iff_forall_mem.1 h.1) e he
    rw [hb] at this
    simpa using this
def Stab (p : Value → World → Prop) : Prop := ∀ v w w', p v w → Kp w w' → p v w'
def AllStab : List (Value → World → Prop) → Prop
  | [] => True
  | p :: l => Stab p ∧ AllStab l
theorem AllStab.get : ∀ (l : List (Value → World → Prop)), AllStab l → ∀ i v w w', l.getD i (fun _ _ => True) v w → Kp w w' → l.getD i (fun _ _ => True) v w' := by
  intro l
  induction l with
  | nil => intro _ i v w w' _ _; simp
  | cons p l ih =>
    intro h i v w w' hp hk
    cases i with
    | zero => exact h.1 v w w' hp hk
    | succ i => exact ih h.2 i v w w' hp hk
def PEq (u : Value) : Value → World → Prop := fun v _ => v = u
def PAny : Value → World → Prop := fun _ _ => True
def VI (z : Int) (k : Nat) : Value → World → Prop := fun v w => ∃ b A n c, v = .agg #[.bool b, .slice A n c] ∧ IV w b A n c z k
def VQ (q : Rat) (k : Nat) : Value → World → Prop := fun v w => ∃ b A n c D m e, v = .agg #[.bool b, .slice A n c, .slice D m e] ∧ QV w b A n c D m e q k
theorem stEq (u : Value) : Stab (PEq u) := fun _ _ _ h _ => h
theorem stAny : Stab PAny := fun _ _ _ h _ => h
theorem stI (z : Int) (k : Nat) : Stab (VI z k) := fun _ _ _ ⟨b, A, n, c, e, h⟩ hk => ⟨b, A, n, c, e, h.keep hk⟩
theorem stQ (q : Rat) (k : Nat) : Stab (VQ q k) := fun _ _ _ ⟨b, A, n, c, D, m, e, h0, h⟩ hk => ⟨b, A, n, c, D, m, e, h0, h.keep hk⟩
def CQ (q : Rat) (k : Nat) : Array Value → World → Prop := fun v w => ∃ b A n c D m e, v = #[.bool b, .slice A n c, .slice D m e] ∧ QV w b A n c D m e q k
def CAny : Array Value → World → Prop := fun _ _ => True
theorem scAny : ∀ c w w', CAny c w → Kp w w' → CAny c w' := fun _ _ _ h _ => h
theorem scQ (q : Rat) (k : Nat) : ∀ c w w', CQ q k c w → Kp w w' → CQ q k c w' := fun _ _ _ ⟨b, A, n, c, D, m, e, h0, h⟩ hk => ⟨b, A, n, c, D, m, e, h0, h.keep hk⟩
end Go.Proofs.YtfbigmdpdcpkfaaGreatDoor

namespace Go.Proofs.YtfbigmdpdcpkfaaGreatDoor
open Go Go.RowKit Bn
attribute [local go_sem ↓] Go.wp_at_zero Go.wp_at_succ
theorem g_valid_e (w : World) (b : Bool) (A : Option Addr) (n c : Nat) (D : Option Addr) (m e : Nat) (a : RD) (k : Nat) (v : Bool) (h : QD w b A n c D m e a k) (hk : k ≤ 300000000) (hv : a.ok = v) :
    Calls Tryz.prog 111 #[.agg #[.bool b, .slice A n c, .slice D m e]] w (RetV w (.bool v)) := by subst hv; exact g_valid w b A n c D m e a k h hk
theorem g_parts_1 (w : World) (b : Bool) (A : Option Addr) (n c : Nat) (D : Option Addr) (m e : Nat) (a : RD) (k : Nat) (h : QD w b A n c D m e a k) (h0 : 0 < k) (hk : k ≤ 300000000) (ho : a.ok = false) :
  Calls Tryz.prog 80 #[.agg #[.bool b, .slice A n c, .slice D m e]] w (RetII w a.q.num a.q.den k) := by
 have HK := Lib.hid hk
 have HO := Lib.hid ho
 have hq : a.q.num = 0 ∧ (a.q.den : Int) = 1 := q_bad (.inl ho)
 rw [hq.1, hq.2]
 clear hq ho
 have HP := Lib.hid h0
 go_enter Tryz.func80, Tryz.ntmps80
 go_wp2_with fail
 (with_reducible refine (g_valid_e _ b A n c D m e a k false ?_ ?_ ?_).mono ?_); (exact h.belw (((((Below.refl _ _).alloc (Nat.le_refl _) _).alloc (by simp) _).alloc (by simp <;> omega) _))); (exact HK.out); (exact HO.out); rintro e w1 ⟨rfl, hb1⟩
 have q1 := ((((Below.refl _ _).alloc (Nat.le_refl _) _).alloc (by simp) _).alloc (by simp <;> omega) _).trans (hb1.mono (by simp <;> omega))
 replace h := h.belw q1
 have x1a : Blk w1 w.heap.size 39 #[.bool b, .slice A n c, .slice D m e] := (((blkAt _ _ _ (by simp)).alloc _).alloc _).below hb1 (by simp <;> omega)
 have x1b := ((blkAt _ _ _ (g := w.heap.size + 1) (by simp)).alloc _).below hb1 (by simp <;> omega)
 have x1c := (blkAt _ _ _ (g := w.heap.size + 1 + 1) (by simp)).below hb1 (by simp)
 have bw1 := (brefl w).trans (q1.mono (brefl w).size)
 have lw1 : w.heap.size + 3 ≤ w1.heap.size := by have := hb1.size; simp at this; omega
 clear q1
 obtain ⟨cx1aa, cx1ab, cx1ac⟩ := x1a.c3
 obtain ⟨lx1aa, lx1ab, lx1ac, lx1ad⟩ := lts0 x1a.lt
 go_wp2_with fail
 (with_reducible refine (g_one _).mono ?_); rintro e w2 ⟨b2, A2, n2, c2, rfl, h2, q2⟩
 clear cx1aa cx1ab cx1ac lx1aa lx1ab lx1ac lx1ad
 replace h := h.belw q2
 replace x1a := x1a.b q2
 replace x1b := x1b.b q2
 replace x1c := x1c.b q2
 have bw2 := bw1.trans (q2.mono bw1.size)
 have lw2 := q2.size
 clear q2 bw1
 obtain ⟨cx1ba, cx1bb⟩ := x1b.c2
 obtain ⟨fx1ba, fx1bb⟩ := x1b.f2
 obtain ⟨lx1ba, lx1bb, lx1bc, lx1bd⟩ := lts1 x1b.lt
 obtain ⟨cx1ca, cx1cb⟩ := x1c.c2
 obtain ⟨fx1ca, fx1cb⟩ := x1c.f2
 obtain ⟨lx1ca, lx1cb, lx1cc, lx1cd⟩ := lts2 x1c.lt
 go_wp2_with fail
 refine bodyPost_ret (v := .tuple #[.agg #[.bool false, .slice none 0 0], .agg #[.bool b2, .slice A2 n2 c2]]) (by simp [results, Tryz.results80, go_sem, *] <;> first | rfl | exact ⟨rfl, rfl⟩) rfl ?_
 exact ⟨false, none, 0, 0, b2, A2, n2, c2, rfl, IV.zero _ _, (h2.keep (((((Kp.refl w2).sb (w.heap.size + 1) 0 x1b.box (by decide) (.bool false)).sb (w.heap.size + 1) 1 (x1b.box.set ⟨w.heap.size + 1, 0, none⟩ (.bool false)) (by decide) (.slice none 0 0)).sb (w.heap.size + 1 + 1) 0 ((x1c.box.set ⟨w.heap.size + 1, 0, none⟩ (.bool false)).set ⟨w.heap.size + 1, 1, none⟩ (.slice none 0 0)) (by decide) (.bool b2)).sb (w.heap.size + 1 + 1) 1 (((x1c.box.set ⟨w.heap.size + 1, 0, none⟩ (.bool false)).set ⟨w.heap.size + 1, 1, none⟩ (.slice none 0 0)).set ⟨w.heap.size + 1 + 1, 0, none⟩ (.bool b2)) (by decide) (.slice A2 n2 c2))).mono (by first | exact HP.out | omega), ((((bw2.sc (w.heap.size + 1) 0 (by omega) (.bool false)).sc (w.heap.size + 1) 1 (by omega) (.slice none 0 0)).sc (w.heap.size + 1 + 1) 0 (by omega) (.bool b2)).sc (w.heap.size + 1 + 1) 1 (by omega) (.slice A2 n2 c2))⟩
theorem g_parts_2 (w : World) (b : Bool) (A : Option Addr) (n c : Nat) (D : Option Addr) (m e : Nat) (a : RD) (k : Nat) (h : QD w b A n c D m e a k) (h0 : 0 < k) (hk : k ≤ 300000000) (ho : a.ok = true) (hn : n = 0) :
  Calls Tryz.prog 80 #[.agg #[.bool b, .slice A n c, .slice D m e]] w (RetII w a.q.num a.q.den k) := by
 have HK := Lib.hid hk
 have HO := Lib.hid ho
 have hq : a.q.num = 0 ∧ (a.q.den : Int) = 1 := q_bad (.inr (List.eq_nil_of_length_eq_zero (by rw [← h.2.1.2.1, hn])))
 rw [hq.1, hq.2]
 clear hq ho
 subst hn
 have HP := Lib.hid h0
 go_enter Tryz.func80, Tryz.ntmps80
 go_wp2_with fail
 (with_reducible refine (g_valid_e _ b A 0 c D m e a k true ?_ ?_ ?_).mono ?_); (exact h.belw (((((Below.refl _ _).alloc (Nat.le_refl _) _).alloc (by simp) _).alloc (by simp <;> omega) _))); (exact HK.out); (exact HO.out); rintro e w1 ⟨rfl, hb1⟩
 have q1 := ((((Below.refl _ _).alloc (Nat.le_refl _) _).alloc (by simp) _).alloc (by simp <;> omega) _).trans (hb1.mono (by simp <;> omega))
 replace h := h.belw q1
 have x1a : Blk w1 w.heap.size 39 #[.bool b, .slice A 0 c, .slice D m e] := (((blkAt _ _ _ (by simp)).alloc _).alloc _).below hb1 (by simp <;> omega)
 have x1b := ((blkAt _ _ _ (g := w.heap.size + 1) (by simp)).alloc _).below hb1 (by simp <;> omega)
 have x1c := (blkAt _ _ _ (g := w.heap.size + 1 + 1) (by simp)).below hb1 (by simp)
 have bw1 := (brefl w).trans (q1.mono (brefl w).size)
 have lw1 : w.heap.size + 3 ≤ w1.heap.size := by have := hb1.size; simp at this; omega
 clear q1
 obtain ⟨cx1aa, cx1ab, cx1ac⟩ := x1a.c3
 obtain ⟨lx1aa, lx1ab, lx1ac, lx1ad⟩ := lts0 x1a.lt
 go_wp2_with fail
 (with_reducible refine (g_one _).mono ?_); rintro e w2 ⟨b2, A2, n2, c2, rfl, h2, q2⟩
 clear cx1aa cx1ab cx1ac lx1aa lx1ab lx1ac lx1ad
 replace h := h.belw q2
 replace x1a := x1a.b q2
 replace x1b := x1b.b q2
 replace x1c := x1c.b q2
 have bw2 := bw1.trans (q2.mono bw1.size)
 have lw2 := q2.size
 clear q2 bw1
 obtain ⟨cx1ba, cx1bb⟩ := x1b.c2
 obtain ⟨fx1ba, fx1bb⟩ := x1b.f2
 obtain ⟨lx1ba, lx1bb, lx1bc, lx1bd⟩ := lts1 x1b.lt
 obtain ⟨cx1ca, cx1cb⟩ := x1c.c2
 obtain ⟨fx1ca, fx1cb⟩ := x1c.f2
 obtain ⟨lx1ca, lx1cb, lx1cc, lx1cd⟩ := lts2 x1c.lt
 go_wp2_with fail
 refine bodyPost_ret (v := .tuple #[.agg #[.bool false, .slice none 0 0], .agg #[.bool b2, .slice A2 n2 c2]]) (by simp [results, Tryz.results80, go_sem, *] <;> first | rfl | exact ⟨rfl, rfl⟩) rfl ?_
 exact ⟨false, none, 0, 0, b2, A2, n2, c2, rfl, IV.zero _ _, (h2.keep (((((Kp.refl w2).sb (w.heap.size + 1) 0 x1b.box (by decide) (.bool false)).sb (w.heap.size + 1) 1 (x1b.box.set ⟨w.heap.size + 1, 0, none⟩ (.bool false)) (by decide) (.slice none 0 0)).sb (w.heap.size + 1 + 1) 0 ((x1c.box.set ⟨w.heap.size + 1, 0, none⟩ (.bool false)).set ⟨w.heap.size + 1, 1, none⟩ (.slice none 0 0)) (by decide) (.bool b2)).sb (w.heap.size + 1 + 1) 1 (((x1c.box.set ⟨w.heap.size + 1, 0, none⟩ (.bool false)).set ⟨w.heap.size + 1, 1, none⟩ (.slice none 0 0)).set ⟨w.heap.size + 1 + 1, 0, none⟩ (.bool b2)) (by decide) (.slice A2 n2 c2))).mono (by first | exact HP.out | omega), ((((bw2.sc (w.heap.size + 1) 0 (by omega) (.bool false)).sc (w.heap.size + 1) 1 (by omega) (.slice none 0 0)).sc (w.heap.size + 1 + 1) 0 (by omega) (.bool b2)).sc (w.heap.size + 1 + 1) 1 (by omega) (.slice A2 n2 c2))⟩
theorem g_parts_3 (w : World) (b : Bool) (A : Option Addr) (n c : Nat) (D : Option Addr) (m e : Nat) (a : RD) (k : Nat) (h : QD w b A n c D m e a k) (h0 : 0 < k) (hk : k ≤ 300000000) (ho : a.ok = true) (hn : a.num ≠ []) :
    Calls Tryz.prog 80 #[.agg #[.bool b, .slice A n c, .slice D m e]] w (RetII w a.q.num a.q.den k) := by
  have HK := Lib.hid hk
  have HO := Lib.hid ho
  obtain ⟨e1, e2, e3⟩ := q_ok h.2.1.1 h.2.2.1.1 ho hn
  have HE := Lib.hid (And.intro e1 (And.intro e2 e3))
  have hnp : 0 < n := by rcases Nat.eq_zero_or_pos n with h1 | h1; exact absurd (List.eq_nil_of_length_eq_zero (by rw [← h.2.1.2.1, h1])) hn; exact h1
  have en : ((n : Int) == 0) = false := by simp; omega
  clear ho hn e1 e2 e3 hk
  go_enter Tryz.func80, Tryz.ntmps80
  go_wp2_with fail
  (with_reducible refine (g_valid_e _ b A n c D m e a k true ?_ ?_ ?_).mono ?_); (exact h.belw (((((Below.refl _ _).alloc (Nat.le_refl _) _).alloc (by simp) _).alloc (by simp <;> omega) _))); (exact HK.out); (exact HO.out); rintro e w1 ⟨rfl, hb1⟩
  have q1 := ((((Below.refl _ _).alloc (Nat.le_refl _) _).alloc (by simp) _).alloc (by simp <;> omega) _).trans (hb1.mono (by simp <;> omega))
  replace h := h.belw q1
  have x1a : Blk w1 w.heap.size 39 #[.bool b, .slice A n c, .slice D m e] := (((blkAt _ _ _ (by simp)).alloc _).alloc _).below hb1 (by simp <;> omega)
  have x1b := ((blkAt _ _ _ (g := w.heap.size + 1) (by simp)).alloc _).below hb1 (by simp <;> omega)
  have x1c := (blkAt _ _ _ (g := w.heap.size + 1 + 1) (by simp)).below hb1 (by simp)
  have bw1 := (brefl w).trans (q1.mono (brefl w).size)
  have lw1 : w.heap.size + 3 ≤ w1.heap.size := by have := hb1.size; simp at this; omega
  clear q1
  obtain ⟨cx1aa, cx1ab, cx1ac⟩ := x1a.c3
  obtain ⟨lx1aa, lx1ab, lx1ac, lx1ad⟩ := lts0 x1a.lt
  go_wp2_with fail
  refine wp_region_lin (B := w.heap.size) (fr := fun xf => ⟨List.toArray (.agg #[.bool b, .slice A n c, .slice D m e] :: .pointer (some ⟨w.heap.size, 0, none⟩) :: .pointer (some ⟨w.heap.size + 1, 0, none⟩) :: .pointer (some ⟨w.heap.size + 1 + 1, 0, none⟩) :: .agg #[.bool b, .slice A n c, .slice D m e] :: .bool true :: .bool false :: .bool false :: .pointer (some ⟨w.heap.size, 1, none⟩) :: .slice A n c :: .int .i64 n :: .bool false :: .bool false :: undef :: undef :: xf 0 :: xf 1 :: xf 2 :: xf 3 :: xf 4 :: xf 5 :: xf 6 :: xf 7 :: []), []⟩) (R := fun i => List.getD ((PEq (.pointer (some ⟨w.heap.size, 0, none⟩))) :: (PEq (.bool b)) :: (PEq (.pointer (some ⟨w.heap.size, 1, none⟩))) :: (PEq (.slice A n c)) :: (PEq (.agg #[.bool b, .slice A n c])) :: (PEq (.pointer (some ⟨w.heap.size, 2, none⟩))) :: (PEq (.slice D m e)) :: (PEq (.agg #[.bool false, .slice D m e])) :: PAny :: PAny :: []) i (fun _ _ => True)) (es := []) (ow := [⟨w.heap.size, 10, 0, 39, #[.bool b, .slice A n c, .slice D m e], CAny⟩, ⟨w.heap.size + 1, 8, 0, 67, #[.bool false, .slice none 0 0], fun cz _ => cz = #[.bool b, .slice A n c]⟩, ⟨w.heap.size + 1 + 1, 9, 0, 67, #[.bool false, .slice none 0 0], fun cz _ => cz = #[.bool false, .slice D m e]⟩]) (x0 := (fun _ => undef)) (by kernel_rfl)
    (each_of ⟨fun _ _ => rfl, fun _ _ => rfl, fun _ _ => rfl, fun _ _ => rfl, fun _ _ => rfl, fun _ _ => rfl, fun _ _ => rfl, fun _ _ => rfl, fun _ _ => rfl, fun _ _ => rfl, trivial⟩) (each_of (acyc_from _ 0 (by kernel_rfl))) (AllStab.get _ ⟨stEq _, stEq _, stEq _, stEq _, stEq _, stEq _, stEq _, stEq _, stAny, stAny, trivial⟩)
    (fun _ h => nomatch h) (List.forall_mem_cons.2 ⟨scAny, List.forall_mem_cons.2 ⟨fun _ _ _ h _ => h, List.forall_mem_cons.2 ⟨fun _ _ _ h _ => h, fun _ h => nomatch h⟩⟩⟩) (fun _ h => nomatch h) bw1.size
    (List.forall_mem_cons.2 ⟨⟨x1a, by show w.heap.size ≤ w.heap.size; omega⟩, List.forall_mem_cons.2 ⟨⟨x1b, by show w.heap.size ≤ w.heap.size + 1; omega⟩, List.forall_mem_cons.2 ⟨⟨x1c, by show w.heap.size ≤ w.heap.size + 1 + 1; omega⟩, fun _ h => nomatch h⟩⟩⟩) (ownDist (by simp <;> omega))
    (each_of ⟨?_, ?_, ?_, ?_, ?_, ?_, ?_, ?_, ?_, ?_, trivial⟩) ?_
  · exact .inl ⟨by simp, by simp, fun xf wq hk hbl hd K hK => by
      (try dsimp only)
      go_simp
      exact hK.out (.pointer (some ⟨w.heap.size, 0, none⟩)) _ rfl (brefl _)⟩
  · exact .inl ⟨by simp, by simp, fun xf wq hk hbl hd K hK => by
      have d0 : xf 0 = .pointer (some ⟨w.heap.size, 0, none⟩) := hd ⟨0, .data⟩ (by simp) rfl
      have y : Blk wq w.heap.size 39 #[.bool b, .slice A n c, .slice D m e] := hbl _ (List.Mem.head _) (by simp [Region.binds])
      obtain ⟨hcl0, hcl1, hcl2⟩ := y.c3
      (try dsimp only); (try simp only [d0])
      go_simp
      have hz := hK.out (.bool b) _ rfl (brefl _)
      simp only [d0] at hz
      exact hz⟩
  · exact .inl ⟨by simp, by simp, fun xf wq hk hbl hd K hK => by
      (try dsimp only)
      go_simp
      exact hK.out (.pointer (some ⟨w.heap.size, 1, none⟩)) _ rfl (brefl _)⟩
  · exact .inl ⟨by simp, by simp, fun xf wq hk hbl hd K hK => by
      have d2 : xf 2 = .pointer (some ⟨w.heap.size, 1, none⟩) := hd ⟨2, .data⟩ (by simp) rfl
      have y : Blk wq w.heap.size 39 #[.bool b, .slice A n c, .slice D m e] := hbl _ (List.Mem.head _) (by simp [Region.binds])
      obtain ⟨hcl0, hcl1, hcl2⟩ := y.c3
      (try dsimp only); (try simp only [d2])
      go_simp
      have hz := hK.out (.slice A n c) _ rfl (brefl _)
      simp only [d2] at hz
      exact hz⟩
  · exact .inl ⟨by simp, by simp, fun xf wq hk hbl hd K hK => by
      have d1 : xf 1 = .bool b := hd ⟨1, .data⟩ (by simp) rfl
      have d3 : xf 3 = .slice A n c := hd ⟨3, .data⟩ (by simp) rfl
      (try dsimp only); (try simp only [d1, d3])
      go_simp
      have hz := hK.out (.agg #[.bool b, .slice A n c]) _ rfl (brefl _)
      simp only [d1, d3] at hz
      exact hz⟩
  · exact .inl ⟨by simp, by simp, fun xf wq hk hbl hd K hK => by
      (try dsimp only)
      go_simp
      exact hK.out (.pointer (some ⟨w.heap.size, 2, none⟩)) _ rfl (brefl _)⟩
  · exact .inl ⟨by simp, by simp, fun xf wq hk hbl hd K hK => by
      have d5 : xf 5 = .pointer (some ⟨w.heap.size, 2, none⟩) := hd ⟨5, .data⟩ (by simp) rfl
      have y : Blk wq w.heap.size 39 #[.bool b, .slice A n c, .slice D m e] := hbl _ (List.Mem.head _) (by simp [Region.binds])
      obtain ⟨hcl0, hcl1, hcl2⟩ := y.c3
      (try dsimp only); (try simp only [d5])
      go_simp
      have hz := hK.out (.slice D m e) _ rfl (brefl _)
      simp only [d5] at hz
      exact hz⟩
  · exact .inl ⟨by simp, by simp, fun xf wq hk hbl hd K hK => by
      have d6 : xf 6 = .slice D m e := hd ⟨6, .data⟩ (by simp) rfl
      (try dsimp only); (try simp only [d6])
      go_simp
      have hz := hK.out (.agg #[.bool false, .slice D m e]) _ rfl (brefl _)
      simp only [d6] at hz
      exact hz⟩
  · exact .inr (.inr (.inr ⟨⟨w.heap.size + 1, 8, 0, 67, #[.bool false, .slice none 0 0], fun cz _ => cz = #[.bool b, .slice A n c]⟩, by simp, rfl, by simp, by simp, (show KT 67 = false by decide), fun _ _ => True.intro, fun xf wq hblk hd => by
      have d4 : xf 4 = .agg #[.bool b, .slice A n c] := hd ⟨4, .data⟩ (by simp) rfl
      dsimp only at hblk
      refine ⟨[.bool b, .slice A n c], fun w' hk => rfl, fun K hK => ?_⟩
      have hc0 : wq.cell? ⟨w.heap.size + 1, 0, none⟩ = some (.bool false) := hblk.cell 0
      have hc1 : wq.cell? ⟨w.heap.size + 1, 1, none⟩ = some (.slice none 0 0) := hblk.cell 1
      have hf0 : wq.frozen? ⟨w.heap.size + 1, 0, none⟩ = false := hblk.frozen 0
      have hf1 : wq.frozen? ⟨w.heap.size + 1, 1, none⟩ = false := hblk.frozen 1
      (try dsimp only)
      simp only [d4]
      go_simp
      have hz := hK.out undef
      simp only [d4] at hz
      exact hz⟩))
  · exact .inr (.inr (.inr ⟨⟨w.heap.size + 1 + 1, 9, 0, 67, #[.bool false, .slice none 0 0], fun cz _ => cz = #[.bool false, .slice D m e]⟩, by simp, rfl, by simp, by simp, (show KT 67 = false by decide), fun _ _ => True.intro, fun xf wq hblk hd => by
      have d7 : xf 7 = .agg #[.bool false, .slice D m e] := hd ⟨7, .data⟩ (by simp) rfl
      dsimp only at hblk
      refine ⟨[.bool false, .slice D m e], fun w' hk => rfl, fun K hK => ?_⟩
      have hc0 : wq.cell? ⟨w.heap.size + 1 + 1, 0, none⟩ = some (.bool false) := hblk.cell 0
      have hc1 : wq.cell? ⟨w.heap.size + 1 + 1, 1, none⟩ = some (.slice none 0 0) := hblk.cell 1
      have hf0 : wq.frozen? ⟨w.heap.size + 1 + 1, 0, none⟩ = false := hblk.frozen 0
      have hf1 : wq.frozen? ⟨w.heap.size + 1 + 1, 1, none⟩ = false := hblk.frozen 1
      (try dsimp only)
      simp only [d7]
      go_simp
      have hz := hK.out undef
      simp only [d7] at hz
      exact hz⟩))
  clear cx1aa cx1ab cx1ac lx1aa lx1ab lx1ac lx1ad
  intro y2 w2 kq2 hbl2 lw2 how hrr hfl hds
  replace h := h.keep kq2
  obtain ⟨_, z2_0, ez, _⟩ := how _ (List.Mem.head _)
  obtain rfl := ez (by simp)
  dsimp only at z2_0
  obtain ⟨_, z2_1, _, ez⟩ := how _ (List.Mem.tail _ (List.Mem.head _))
  obtain rfl := ez (by simp)
  dsimp only at z2_1
  obtain ⟨_, z2_2, _, ez⟩ := how _ (List.Mem.tail _ (List.Mem.tail _ (List.Mem.head _)))
  obtain rfl := ez (by simp)
  dsimp only at z2_2
  (try dsimp only)
  clear hrr hfl how hds 
  clear x1a x1b x1c
  have bw2 := bw1.trans hbl2
  clear bw1
  have cz2_1_0 : w2.cell? ⟨w.heap.size + 1, 0, none⟩ = some (.bool b) := z2_1.cell 0
  have cz2_1_1 : w2.cell? ⟨w.heap.size + 1, 1, none⟩ = some (.slice A n c) := z2_1.cell 1
  obtain ⟨lz2_1_0, lz2_1_1, lz2_1_2, lz2_1_3⟩ := lts1 z2_1.lt
  have cz2_2_0 : w2.cell? ⟨w.heap.size + 1 + 1, 0, none⟩ = some (.bool false) := z2_2.cell 0
  have cz2_2_1 : w2.cell? ⟨w.heap.size + 1 + 1, 1, none⟩ = some (.slice D m e) := z2_2.cell 1
  obtain ⟨lz2_2_0, lz2_2_1, lz2_2_2, lz2_2_3⟩ := lts2 z2_2.lt
  go_wp2_with fail
  refine bodyPost_ret (v := .tuple #[.agg #[.bool b, .slice A n c], .agg #[.bool false, .slice D m e]]) (by simp [results, Tryz.results80, go_sem, *] <;> first | rfl | exact ⟨rfl, rfl⟩) rfl ?_
  have kp := (Kp.refl w2)
  exact ⟨b, A, n, c, false, D, m, e, rfl, ⟨h.1.symm.trans HE.out.2.1, HE.out.1 ▸ h.2.1.keep kp, h.2.2.2.1⟩, ⟨by simp [wh], HE.out.2.2 ▸ h.2.2.1.keep kp, h.2.2.2.2⟩, bw2⟩
theorem g_parts (w : World) (b : Bool) (A : Option Addr) (n c : Nat) (D : Option Addr) (m e : Nat) (q : Rat) (k : Nat) (h : QZ w b A n c D m e q k) (h0 : 0 < k) (hk : k ≤ 300000000) :
    Calls Tryz.prog 80 #[.agg #[.bool b, .slice A n c, .slice D m e]] w (RetII w q.num q.den k) := by
  obtain ⟨a, h, rfl⟩ := h
  cases ho : a.ok
  · exact g_parts_1 w b A n c D m e a k h h0 hk ho
  · by_cases hn : n = 0
    · exact g_parts_2 w b A n c D m e a k h h0 hk ho hn
    · exact g_parts_3 w b A n c D m e a k h h0 hk ho (h.num_ne (by omega))
theorem g_sign (w : World) (b : Bool) (A : Option Addr) (n c : Nat) (D : Option Addr) (m e : Nat) (q : Rat) (k : Nat) (h : QZ w b A n c D m e q k) (h0 : 0 < k) (hk : k ≤ 40000000) :
  Calls Tryz.prog 41 #[.agg #[.bool b, .slice A n c, .slice D m e]] w (RetV w (.int .i64 q.num.sign)) := by
 go_enter Tryz.func41, Tryz.ntmps41
 go_wp2_with fail
 (with_reducible refine (g_parts _ b A n c D m e (q) (k) ?_ ?_ ?_).mono ?_); (exact (h.belw ((Below.refl _ _).alloc (Nat.le_refl _) _))); (first | omega | decide | assumption); (first | omega | decide | assumption); rintro e w1 ⟨b1, A1, n1, c1, b'1, A'1, n'1, c'1, rfl, h1, h'1, hb1⟩
 have q1 := ((Below.refl _ _).alloc (Nat.le_refl _) _).trans (hb1.mono (by simp))
 replace h := h.belw q1
 have x1a : Blk w1 w.heap.size 39 #[.bool b, .slice A n c, .slice D m e] := (blkAt _ _ _ (by simp)).below hb1 (by simp)
 have bw1 := (brefl w).trans (q1.mono (brefl w).size)
 have lw1 : w.heap.size + 1 ≤ w1.heap.size := by have := hb1.size; simp at this; omega
 clear q1
 go_wp2_with fail
 (with_reducible refine (r01_sign _ b1 A1 n1 c1 ((q).num) ((k)) ?_ ?_).mono ?_); (exact (h1.belw (((Below.refl _ _).alloc (Nat.le_refl _) _).alloc (by simp) _)).iz); (first | omega | decide | assumption); rintro e w2 ⟨rfl, hb2⟩
 have q2 := (((Below.refl _ _).alloc (Nat.le_refl _) _).alloc (by simp) _).trans (hb2.mono (by simp <;> omega))
 replace h := h.belw q2
 replace h1 := h1.belw q2
 replace h'1 := h'1.belw q2
 replace x1a := x1a.b q2
 have x2a : Blk w2 w1.heap.size 67 #[.bool b1, .slice A1 n1 c1] := ((blkAt _ _ _ (by simp)).alloc _).below hb2 (by simp <;> omega)
 have x2b := (blkAt _ _ _ (g := w1.heap.size + 1) (by simp)).below hb2 (by simp)
 have bw2 := bw1.trans (q2.mono bw1.size)
 have lw2 : w1.heap.size + 2 ≤ w2.heap.size := by have := hb2.size; simp at this; omega
 clear q2 bw1
 go_wp2_with fail
 go_ret
 exact retI rfl bw2
end Go.Proofs.YtfbigmdpdcpkfaaGreatDoor

namespace Go.Proofs.YtfbigmdpdcpkfaaGreatDoor
open Go Go.RowKit Bn
attribute [local go_sem ↓] Go.wp_at_zero Go.wp_at_succ
theorem r_letter (w : World) (c : UInt8) (v : Bool) (hv : isLet c = v) : Calls Tryz.prog 54 #[.int .u8 (c.toNat : Nat)] w (RetV w (.bool v)) := by
 have hc : c.toNat < 256 := c.toNat_lt
 obtain ⟨n, hn⟩ : ∃ n, c.toNat = n := ⟨_, rfl⟩
 rw [hn] at hc ⊢
 have hd : v = ((decide (97 ≤ n) && decide (n ≤ 122)) || (decide (65 ≤ n) && decide (n ≤ 90))) := by rw [← hv, isLet_nat, hn]
 clear hv
 rcases (show (0 ≤ n ∧ n ≤ 64) ∨ (65 ≤ n ∧ n ≤ 90) ∨ (91 ≤ n ∧ n ≤ 96) ∨ (97 ≤ n ∧ n ≤ 122) ∨ (123 ≤ n ∧ n ≤ 255) by omega) with ⟨ha, hb⟩ | ⟨ha, hb⟩ | ⟨ha, hb⟩ | ⟨ha, hb⟩ | ⟨ha, hb⟩
 ·have ege97 : ((97 : Int) ≤ (n : Int)) = False := by simp; omega
  have ele122 : ((n : Int) ≤ 122) = True := by simp; omega
  have ege65 : ((65 : Int) ≤ (n : Int)) = False := by simp; omega
  have ele90 : ((n : Int) ≤ 90) = True := by simp; omega
  obtain rfl : v = false := by rw [hd]; simp; omega
  clear hd hn
  go_enter Tryz.func54, Tryz.ntmps54
  go_wp2_with fail
  go_ret
  exact retB rfl (brefl w)
 ·have ege97 : ((97 : Int) ≤ (n : Int)) = False := by simp; omega
  have ele122 : ((n : Int) ≤ 122) = True := by simp; omega
  have ege65 : ((65 : Int) ≤ (n : Int)) = True := by simp; omega
  have ele90 : ((n : Int) ≤ 90) = True := by simp; omega
  obtain rfl : v = true := by rw [hd]; simp; omega
  clear hd hn
  go_enter Tryz.func54, Tryz.ntmps54
  go_wp2_with fail
  go_ret
  exact retB rfl (brefl w)
 ·have ege97 : ((97 : Int) ≤ (n : Int)) = False := by simp; omega
  have ele122 : ((n : Int) ≤ 122) = True := by simp; omega
  have ege65 : ((65 : Int) ≤ (n : Int)) = True := by simp; omega
  have ele90 : ((n : Int) ≤ 90) = False := by simp; omega
  obtain rfl : v = false := by rw [hd]; simp; omega
  clear hd hn
  go_enter Tryz.func54, Tryz.ntmps54
  go_wp2_with fail
  go_ret
  exact retB rfl (brefl w)
 ·have ege97 : ((97 : Int) ≤ (n : Int)) = True := by simp; omega
  have ele122 : ((n : Int) ≤ 122) = True := by simp; omega
  have ege65 : ((65 : Int) ≤ (n : Int)) = True := by simp; omega
  have ele90 : ((n : Int) ≤ 90) = False := by simp; omega
  obtain rfl : v = true := by rw [hd]; simp; omega
  clear hd hn
  go_enter Tryz.func54, Tryz.ntmps54
  go_wp2_with fail
  go_ret
  exact retB rfl (brefl w)
 ·have ege97 : ((97 : Int) ≤ (n : Int)) = True := by simp; omega
  have ele122 : ((n : Int) ≤ 122) = False := by simp; omega
  have ege65 : ((65 : Int) ≤ (n : Int)) = True := by simp; omega
  have ele90 : ((n : Int) ≤ 90) = False := by simp; omega
  obtain rfl : v = false := by rw [hd]; simp; omega
  clear hd hn
  go_enter Tryz.func54, Tryz.ntmps54
  go_wp2_with fail
  go_ret
  exact retB rfl (brefl w)
theorem r_digit (w : World) (c : UInt8) (v : Bool) (hv : isDg c = v) : Calls Tryz.prog 77 #[.int .u8 (c.toNat : Nat)] w (RetV w (.bool v)) := by
 have hc : c.toNat < 256 := c.toNat_lt
 obtain ⟨n, hn⟩ : ∃ n, c.toNat = n := ⟨_, rfl⟩
 rw [hn] at hc ⊢
 have hd : v = (decide (48 ≤ n) && decide (n ≤ 57)) := by rw [← hv, isDg_nat, hn]
 clear hv
 rcases (show (0 ≤ n ∧ n ≤ 47) ∨ (48 ≤ n ∧ n ≤ 57) ∨ (58 ≤ n ∧ n ≤ 255) by omega) with ⟨ha, hb⟩ | ⟨ha, hb⟩ | ⟨ha, hb⟩
 ·have ege48 : ((48 : Int) ≤ (n : Int)) = False := by simp; omega
  have ele57 : ((n : Int) ≤ 57) = True := by simp; omega
  obtain rfl : v = false := by rw [hd]; simp; omega
  clear hd hn
  go_enter Tryz.func77, Tryz.ntmps77
  go_wp2_with fail
  go_ret
  exact retB rfl (brefl w)
 ·have ege48 : ((48 : Int) ≤ (n : Int)) = True := by simp; omega
  have ele57 : ((n : Int) ≤ 57) = True := by simp; omega
  obtain rfl : v = true := by rw [hd]; simp; omega
  clear hd hn
  go_enter Tryz.func77, Tryz.ntmps77
  go_wp2_with fail
  go_ret
  exact retB rfl (brefl w)
 ·have ege48 : ((48 : Int) ≤ (n : Int)) = True := by simp; omega
  have ele57 : ((n : Int) ≤ 57) = False := by simp; omega
  obtain rfl : v = false := by rw [hd]; simp; omega
  clear hd hn
  go_enter Tryz.func77, Tryz.ntmps77
  go_wp2_with fail
  go_ret
  exact retB rfl (brefl w)
end Go.Proofs.YtfbigmdpdcpkfaaGreatDoor

namespace Go.Proofs.YtfbigmdpdcpkfaaGreatDoor
open Go Go.RowKit Bn
attribute [local go_sem ↓] Go.wp_at_zero Go.wp_at_succ
theorem r_at (w : World) (s : List UInt8) (i : Nat) (d : UInt8) (hd : atB s i = d) : Calls Tryz.prog 40 #[strV s, .int .i64 (i : Nat)] w (RetV w (.int .u8 (d.toNat : Nat))) := by
  have hszs := size_v s
  rcases Nat.lt_or_ge i s.length with hl | hl
  · have hget : ∀ h, (⟨s.toArray⟩ : ByteArray)[i]'h = d := fun h => by rw [← hd]; exact (atB_lt hl).symm
    have hlts : i < s.length := hl
    have hi0 : (0 : Int) ≤ ((i : Nat) : Int) := by omega
    have e1 : ((i : Int) < (s.length : Int)) = True := by simp; omega
    clear hd
    go_enter Tryz.func40, Tryz.ntmps40
    go_wp2_with fail
    go_ret
    exact ⟨rfl, (brefl w)⟩
  · obtain rfl : d = 0 := by rw [← hd]; exact atB_ge hl
    have e1 : ((i : Int) < (s.length : Int)) = False := by simp; omega
    clear hd
    go_enter Tryz.func40, Tryz.ntmps40
    go_wp2_with fail
    go_ret
    exact ⟨rfl, (brefl w)⟩
theorem r_wordEnd (w : World) (s : List UInt8) (i : Nat) (hi : i ≤ s.length) (hs : s.length < 4611686018427387904) (v : Nat) (hv : i + wordN (s.drop i) = v) : Calls Tryz.prog 46 #[strV s, .int .i64 (i : Nat)] w (RetV w (.int .i64 (v : Nat))) := by
 obtain ⟨d, hd⟩ : ∃ d, atB s i = d := ⟨_, rfl⟩
 cases hl : isLet d
 ·obtain rfl : i = v := by rw [← hv, wordN_no (by rw [hd]; exact hl)]; rfl
  clear hv
  go_enter Tryz.func46, Tryz.ntmps46
  go_wp2_with fail
  (with_reducible refine (r_at _ (s) (i) d hd).mono ?_); rintro e w1 ⟨rfl, q1⟩
  have bw1 := (brefl w).trans (q1.mono (brefl w).size)
  have lw1 := q1.size
  clear q1
  go_wp2_with fail
  (with_reducible refine (r_letter _ d false hl).mono ?_); rintro e w2 ⟨rfl, q2⟩
  have bw2 := bw1.trans (q2.mono bw1.size)
  have lw2 := q2.size
  clear q2 bw1
  go_wp2_with fail
  go_ret
  exact ⟨rfl, bw2⟩
 ·have hv : i + ((s.drop i).takeWhile isPart).length = v := by rw [← hv, (wordN_at (by rw [hd]; exact hl)).2, (tw_step (p := isPart) rfl (by rw [hd]; exact isPart_1 hl)).2]
  have HV := Lib.hid hv
  clear hv
  go_enter Tryz.func46, Tryz.ntmps46
  go_wp2_with fail
  (with_reducible refine (r_at _ (s) (i) d hd).mono ?_); rintro e w1 ⟨rfl, q1⟩
  have bw1 := (brefl w).trans (q1.mono (brefl w).size)
  have lw1 := q1.size
  clear q1
  go_wp2_with fail
  (with_reducible refine (r_letter _ d true hl).mono ?_); rintro e w2 ⟨rfl, q2⟩
  have bw2 := bw1.trans (q2.mono bw1.size)
  have lw2 := q2.size
  clear q2 bw1
  go_wp2_with fail
  clear hd hl
  go_loopw [1] (fun iv wr => ∃ (j : Nat), iv = .int .i64 (j : Nat) ∧ j ≤ s.length ∧ Hid (j + ((s.drop j).takeWhile isPart).length = v) ∧ Kp w2 wr ∧ Below w.heap.size w wr ∧ w2.heap.size ≤ wr.heap.size) (fun iv _ => s.length - (intOf iv).toNat)
  case atStart => exact ⟨i, rfl, hi, HV, Kp.refl _, bw2, Nat.le_refl _⟩
  case round =>
   obtain ⟨j, rfl, hj, hw, hkp, hbw, hlw⟩ := hrel
   obtain ⟨d, hd⟩ : ∃ d, atB s j = d := ⟨_, rfl⟩
   cases hl : isLet d
   ·cases hg : isDg d
    ·cases hu : (d == 95)
     ·have hjv : j = v := by rw [← hw.out, tw_stop (p := isPart) (by rw [hd]; exact isPart_0 hl hg hu)]; rfl
      subst hjv
      have h95 : (((d.toNat : Nat) : Int) == 95) = false := (byte_eq d 95).trans hu
      go_wp2_with fail
      (with_reducible refine (r_at _ (s) (j) d hd).mono ?_); rintro e w3 ⟨rfl, q3⟩
      replace hkp := hkp.below q3
      have bw3 := hbw.trans (q3.mono hbw.size)
      have lw3 := q3.size
      clear q3
      go_wp2_with fail
      (with_reducible refine (r_letter _ d false hl).mono ?_); rintro e w4 ⟨rfl, q4⟩
      replace hkp := hkp.below q4
      have bw4 := bw3.trans (q4.mono bw3.size)
      have lw4 := q4.size
      clear q4 bw3
      go_wp2_with fail
      (with_reducible refine (r_at _ (s) (j) d hd).mono ?_); rintro e w5 ⟨rfl, q5⟩
      replace hkp := hkp.below q5
      have bw5 := bw4.trans (q5.mono bw4.size)
      have lw5 := q5.size
      clear q5 bw4
      go_wp2_with fail
      (with_reducible refine (r_digit _ d false hg).mono ?_); rintro e w6 ⟨rfl, q6⟩
      replace hkp := hkp.below q6
      have bw6 := bw5.trans (q6.mono bw5.size)
      have lw6 := q6.size
      clear q6 bw5
      go_wp2_with fail
      (with_reducible refine (r_at _ (s) (j) d hd).mono ?_); rintro e w7 ⟨rfl, q7⟩
      replace hkp := hkp.below q7
      have bw7 := bw6.trans (q7.mono bw6.size)
      have lw7 := q7.size
      clear q7 bw6
      go_wp2_with fail
      go_ret
      exact ⟨rfl, bw7⟩
     ·obtain ⟨hlt, hst⟩ := tw_step (p := isPart) (s := s) (i := j) rfl (by rw [hd]; exact isPart_3 hu)
      have hw2 : Hid (j + 1 + ((s.drop (j + 1)).takeWhile isPart).length = v) := Lib.hid (by rw [← hw.out, hst]; omega)
      clear hst
      have h95 : (((d.toNat : Nat) : Int) == 95) = true := (byte_eq d 95).trans hu
      go_wp2_with fail
      (with_reducible refine (r_at _ (s) (j) d hd).mono ?_); rintro e w3 ⟨rfl, q3⟩
      replace hkp := hkp.below q3
      have bw3 := hbw.trans (q3.mono hbw.size)
      have lw3 := q3.size
      clear q3
      go_wp2_with fail
      (with_reducible refine (r_letter _ d false hl).mono ?_); rintro e w4 ⟨rfl, q4⟩
      replace hkp := hkp.below q4
      have bw4 := bw3.trans (q4.mono bw3.size)
      have lw4 := q4.size
      clear q4 bw3
      go_wp2_with fail
      (with_reducible refine (r_at _ (s) (j) d hd).mono ?_); rintro e w5 ⟨rfl, q5⟩
      replace hkp := hkp.below q5
      have bw5 := bw4.trans (q5.mono bw4.size)
      have lw5 := q5.size
      clear q5 bw4
      go_wp2_with fail
      (with_reducible refine (r_digit _ d false hg).mono ?_); rintro e w6 ⟨rfl, q6⟩
      replace hkp := hkp.below q6
      have bw6 := bw5.trans (q6.mono bw5.size)
      have lw6 := q6.size
      clear q6 bw5
      go_wp2_with fail
      (with_reducible refine (r_at _ (s) (j) d hd).mono ?_); rintro e w7 ⟨rfl, q7⟩
      replace hkp := hkp.below q7
      have bw7 := bw6.trans (q7.mono bw6.size)
      have lw7 := q7.size
      clear q7 bw6
      go_wp2_with fail
      go_roundw
      case rel => exact ⟨j + 1, by go_num, by omega, hw2, hkp, bw7, by omega⟩
      case measure => simp [intOf]; omega
    ·obtain ⟨hlt, hst⟩ := tw_step (p := isPart) (s := s) (i := j) rfl (by rw [hd]; exact isPart_2 hg)
     have hw2 : Hid (j + 1 + ((s.drop (j + 1)).takeWhile isPart).length = v) := Lib.hid (by rw [← hw.out, hst]; omega)
     clear hst
     go_wp2_with fail
     (with_reducible refine (r_at _ (s) (j) d hd).mono ?_); rintro e w3 ⟨rfl, q3⟩
     replace hkp := hkp.below q3
     have bw3 := hbw.trans (q3.mono hbw.size)
     have lw3 := q3.size
     clear q3
     go_wp2_with fail
     (with_reducible refine (r_letter _ d false hl).mono ?_); rintro e w4 ⟨rfl, q4⟩
     replace hkp := hkp.below q4
     have bw4 := bw3.trans (q4.mono bw3.size)
     have lw4 := q4.size
     clear q4 bw3
     go_wp2_with fail
     (with_reducible refine (r_at _ (s) (j) d hd).mono ?_); rintro e w5 ⟨rfl, q5⟩
     replace hkp := hkp.below q5
     have bw5 := bw4.trans (q5.mono bw4.size)
     have lw5 := q5.size
     clear q5 bw4
     go_wp2_with fail
     (with_reducible refine (r_digit _ d true hg).mono ?_); rintro e w6 ⟨rfl, q6⟩
     replace hkp := hkp.below q6
     have bw6 := bw5.trans (q6.mono bw5.size)
     have lw6 := q6.size
     clear q6 bw5
     go_wp2_with fail
     go_roundw
     case rel => exact ⟨j + 1, by go_num, by omega, hw2, hkp, bw6, by omega⟩
     case measure => simp [intOf]; omega
   ·obtain ⟨hlt, hst⟩ := tw_step (p := isPart) (s := s) (i := j) rfl (by rw [hd]; exact isPart_1 hl)
    have hw2 : Hid (j + 1 + ((s.drop (j + 1)).takeWhile isPart).length = v) := Lib.hid (by rw [← hw.out, hst]; omega)
    clear hst
    go_wp2_with fail
    (with_reducible refine (r_at _ (s) (j) d hd).mono ?_); rintro e w3 ⟨rfl, q3⟩
    replace hkp := hkp.below q3
    have bw3 := hbw.trans (q3.mono hbw.size)
    have lw3 := q3.size
    clear q3
    go_wp2_with fail
    (with_reducible refine (r_letter _ d true hl).mono ?_); rintro e w4 ⟨rfl, q4⟩
    replace hkp := hkp.below q4
    have bw4 := bw3.trans (q4.mono bw3.size)
    have lw4 := q4.size
    clear q4 bw3
    go_wp2_with fail
    go_roundw
    case rel => exact ⟨j + 1, by go_num, by omega, hw2, hkp, bw4, by omega⟩
    case measure => simp [intOf]; omega
theorem r_digitsEnd (w : World) (s : List UInt8) (i : Nat) (hi : i ≤ s.length) (hs : s.length < 4611686018427387904) (v : Nat) (hv : i + digN (s.drop i) = v) : Calls Tryz.prog 38 #[strV s, .int .i64 (i : Nat)] w (RetV w (.int .i64 (v : Nat))) := by
 have HV := Lib.hid hv
 clear hv
 go_enter Tryz.func38, Tryz.ntmps38
 go_wp2_with fail
 go_loopw [1] (fun iv wr => ∃ (j : Nat), iv = .int .i64 (j : Nat) ∧ j ≤ s.length ∧ Hid (j + ((s.drop j).takeWhile isDg).length = v) ∧ Kp w wr ∧ Below w.heap.size w wr ∧ w.heap.size ≤ wr.heap.size) (fun iv _ => s.length - (intOf iv).toNat)
 case atStart => exact ⟨i, rfl, hi, HV, Kp.refl _, (brefl w), Nat.le_refl _⟩
 case round =>
  obtain ⟨j, rfl, hj, hw, hkp, hbw, hlw⟩ := hrel
  obtain ⟨d, hd⟩ : ∃ d, atB s j = d := ⟨_, rfl⟩
  cases hg : isDg d
  ·have hjv : j = v := by rw [← hw.out, tw_stop (p := isDg) (by rw [hd]; exact hg)]; rfl
   subst hjv
   go_wp2_with fail
   (with_reducible refine (r_at _ (s) (j) d hd).mono ?_); rintro e w1 ⟨rfl, q1⟩
   replace hkp := hkp.below q1
   have bw1 := hbw.trans (q1.mono hbw.size)
   have lw1 := q1.size
   clear q1
   go_wp2_with fail
   (with_reducible refine (r_digit _ d false hg).mono ?_); rintro e w2 ⟨rfl, q2⟩
   replace hkp := hkp.below q2
   have bw2 := bw1.trans (q2.mono bw1.size)
   have lw2 := q2.size
   clear q2 bw1
   go_wp2_with fail
   go_ret
   exact ⟨rfl, bw2⟩
  ·obtain ⟨hlt, hst⟩ := tw_step (p := isDg) (s := s) (i := j) rfl (by rw [hd]; exact hg)
   have hw2 : Hid (j + 1 + ((s.drop (j + 1)).takeWhile isDg).length = v) := Lib.hid (by rw [← hw.out, hst]; omega)
   clear hst
   go_wp2_with fail
   (with_reducible refine (r_at _ (s) (j) d hd).mono ?_); rintro e w1 ⟨rfl, q1⟩
   replace hkp := hkp.below q1
   have bw1 := hbw.trans (q1.mono hbw.size)
   have lw1 := q1.size
   clear q1
   go_wp2_with fail
   (with_reducible refine (r_digit _ d true hg).mono ?_); rintro e w2 ⟨rfl, q2⟩
   replace hkp := hkp.below q2
   have bw2 := bw1.trans (q2.mono bw1.size)
   have lw2 := q2.size
   clear q2 bw1
   go_wp2_with fail
   go_roundw
   case rel => exact ⟨j + 1, by go_num, by omega, hw2, hkp, bw2, by omega⟩
   case measure => simp [intOf]; omega
theorem r_at_x (w : World) (s : List UInt8) (x : Int) (i : Nat) (hx : x = ((i : Nat) : Int)) (d : UInt8) (hd : atB s i = d) : Calls Tryz.prog 40 #[strV s, .int .i64 x] w (RetV w (.int .u8 (d.toNat : Nat))) := by
  subst hx
  exact r_at w s i d hd
theorem r_digitsEnd_x (w : World) (s : List UInt8) (x : Int) (i : Nat) (hx : x = ((i : Nat) : Int)) (hi : i ≤ s.length) (hs : s.length < 4611686018427387904) (y : Int) (hy : ((i + digN (s.drop i) : Nat) : Int) = y) : Calls Tryz.prog 38 #[strV s, .int .i64 x] w (RetV w (.int .i64 y)) := by
  subst hx hy
  exact r_digitsEnd w s i hi hs _ rfl
theorem r_wordEnd_x (w : World) (s : List UInt8) (x : Int) (i : Nat) (hx : x = ((i : Nat) : Int)) (hi : i ≤ s.length) (hs : s.length < 4611686018427387904) (y : Int) (hy : ((i + wordN (s.drop i) : Nat) : Int) = y) : Calls Tryz.prog 46 #[strV s, .int .i64 x] w (RetV w (.int .i64 y)) := by
  subst hx hy
  exact r_wordEnd w s i hi hs _ rfl
end Go.Proofs.YtfbigmdpdcpkfaaGreatDoor

namespace Go.Proofs.YtfbigmdpdcpkfaaGreatDoor
open Go Go.RowKit Bn
attribute [local go_sem ↓] Go.wp_at_zero Go.wp_at_succ
theorem r_times_c (w : World) (A : Option Addr) (n c : Nat) (l : List Nat) (wa : Wd w A n c l) (hn : n ≤ 1099511627776) (A' : Option Addr) (n' c' : Nat) (l' : List Nat) (wb : Wd w A' n' c' l') (hn' : n' ≤ 1099511627776) :
    Calls Tryz.prog 114 #[.slice A n c, .slice A' n' c'] w (RetL w (digs (val l * val l'))) := by
  have HL := Lib.hid wa.2.1
  have HL' := Lib.hid wb.2.1
  go_enter Tryz.func114, Tryz.ntmps114
  go_wp2_with (at_make; refine wpList_make_words _ rfl _ _ rfl _ _ _ _ (n + n') rfl rfl (by omega) (by omega) (by omega) ?_)
  go_loopw [18] (fun iv wr => ∃ (i : Nat) (L : List Nat), i ≤ n ∧ iv = .int .i64 (i : Nat) ∧ L.length = n + n' ∧ TimesO l l' L (n + n') n' i ∧ Blk wr w.heap.size 100 (cellsOf L) ∧ Below w.heap.size w wr) (fun iv _ => n - (intOf iv).toNat)
  case atStart =>
    refine ⟨0, List.replicate (n + n') 0, Nat.zero_le _, rfl, by simp, ⟨by intro x hx; rw [List.eq_of_mem_replicate hx]; omega, fun j _ => ?_, ?_⟩, Blk.new _ _ _, (Below.refl _ _).alloc (Nat.le_refl _) _⟩
    · unfold wd; by_cases hj : j < n + n' <;> simp [List.getD, hj]
    · rw [Sm]
      have : ∀ m, Sm (wd (List.replicate (n + n') 0)) m = 0 := by
        intro m
        induction m with
        | zero => rfl
        | succ m ih =>
          rw [Sm, ih]
          unfold wd; by_cases hj : m < n + n' <;> simp [List.getD, hj]
      rw [this]; simp
  case round =>
    obtain ⟨i, L, hi, rfl, hLM, hI, hB, hbel⟩ := hrel
    have hKp := Lib.hid ((Kp.refl w).below hbel)
    have HI := Lib.hid hI
    have HB := Lib.hid hB
    have HLM := Lib.hid hLM
    clear hI hB hLM
    by_cases hkM : i < n
    · obtain ⟨x, hx⟩ : ∃ x, wd l i = x := ⟨_, rfl⟩
      have hx1 : x < 4294967296 := by rw [← hx]; exact wa.lt i
      have HX := Lib.hid hx
      clear hx
      go_wp2_with fail
      obtain ⟨wo, hwo⟩ : ∃ wo : World, wo = wr := ⟨_, rfl⟩
      have HWO := Lib.hid hwo
      clear hwo
      go_loopw [7, 23] (fun cv kv w2 => ∃ (k cr : Nat) (L2 : List Nat), k ≤ n' ∧ kv = .int .i64 (k : Nat) ∧ cv = .int .u64 (cr : Nat) ∧ cr < 4294967296 ∧ L2.length = n + n' ∧ TimesN l l' L2 (n + n') n' i x k cr ∧ Blk w2 w.heap.size 100 (cellsOf L2) ∧ Below w.heap.size w w2) (fun _ kv _ => n' - (intOf kv).toNat)
      case atStart => exact ⟨0, 0, L, Nat.zero_le _, rfl, rfl, by omega, HLM.out, ⟨HI.out.1, HI.out.2.1, by rw [HI.out.2.2]; simp [Sm]⟩, HB.out, hbel⟩
      case round =>
        obtain ⟨k, cr, L2, hk, rfl, rfl, hcr, hLM2, hI2, hB2, hbel2⟩ := hrel
        have hKp2 := Lib.hid ((Kp.refl w).below hbel2)
        have HI2 := Lib.hid hI2
        have HB2 := Lib.hid hB2
        have HLM2 := Lib.hid hLM2
        clear hI2 hB2 hLM2
        by_cases hkk : k < n'
        · obtain ⟨g2, o2, rfl, hgl2, hc2⟩ := (wb.keep hKp2.out).at2 (by omega)
          obtain ⟨g, o, rfl, hgl, hc1⟩ := (wa.keep hKp2.out).at2 (by omega)
          have hcx := hc1 i hkM
          rw [HX.out] at hcx
          clear hc1
          have hcy := hc2 k hkk
          obtain ⟨y, z, hy, hz⟩ : ∃ y z, wd l' k = y ∧ wd L2 (i + k) = z := ⟨_, _, rfl, rfl⟩
          have hy1 : y < 4294967296 := by rw [← hy]; exact wb.lt k
          have hz1 : z < 4294967296 := by rw [← hz]; exact wd_lt HI2.out.1 _
          rw [hy] at hcy
          have hck := HB2.out.cell (i + k)
          rw [cellsOf_get (by rw [HLM2.out]; omega), hz] at hck
          have hfk := HB2.out.frozen (i + k)
          have HY := Lib.hid hy
          have HZ := Lib.hid hz
          clear hy hz hc2
          obtain ⟨p, hp⟩ : ∃ d, IntKind.u64.wrap ((x : Int) * (y : Int)) = d := ⟨_, rfl⟩
          obtain ⟨q, hq⟩ : ∃ d, IntKind.u64.wrap (p + (z : Int)) = d := ⟨_, rfl⟩
          obtain ⟨s, hs⟩ : ∃ d, IntKind.u64.wrap (q + (cr : Int)) = d := ⟨_, rfl⟩
          have HD := Lib.hid (times_word hx1 hy1 hz1 hcr hp hq (show IntKind.u64.wrap ((cr : Int) + q) = s by rw [Int.add_comm]; exact hs))
          go_wp2
          go_quiet (fail)
          go_wp2
          obtain ⟨es, hs2⟩ := HD.out
          clear hp hq hs
          go_roundw
          case rel =>
            refine ⟨k + 1, (cr + x * y + z) / 4294967296, L2.set (i + k) ((cr + x * y + z) % 4294967296), by omega, by go_num, by rw [es]; go_num, hs2, by rw [List.length_set]; exact HLM2.out, ⟨wds_set HI2.out.1 _ (Nat.mod_lt _ (by omega)), ?_, ?_⟩, ?_, (below_drewN hbel2 _).setCell (Nat.le_refl _) _⟩
            · intro j hj; rw [wd_set, if_neg (by omega)]; exact HI2.out.2.1 j hj
            · have hm := Sm_set_mid L2 (i + k) ((cr + x * y + z) % 4294967296) (n + n') (by rw [HLM2.out]; omega) (by omega)
              rw [HZ.out] at hm
              have ht := times_step (o := z) (x := x) (y := y) (Sb := Sm (wd l') k) (Pi := 4294967296 ^ i) (Pk := 4294967296 ^ k) HI2.out.2.2 (by rw [Nat.pow_add]) hm
              rw [← Nat.add_assoc, Nat.pow_succ, Sm, HY.out]
              exact ht
            · exact (HB2.out.below (below_drewN (brefl _) _) HB2.out.lt).setW (i + k) _ _ (by rw [es]; omega)
          case measure => simp [intOf]; omega
        · have hk2 : k = n' := by omega
          have HK2 := Lib.hid hk2
          have hck := HB2.out.cell (i + n')
          have hz : wd L2 (i + n') = 0 := HI2.out.2.1 _ (by omega)
          rw [cellsOf_get (by rw [HLM2.out]; omega), hz] at hck
          have hfk := HB2.out.frozen (i + n')
          have hge : n' ≤ k := by omega
          clear hk2 hkk hz
          go_wp2
          go_roundw
          case rel =>
            refine ⟨i + 1, L2.set (i + n') cr, by omega, by go_num, by rw [List.length_set]; exact HLM2.out, ⟨wds_set HI2.out.1 _ hcr, ?_, ?_⟩, ?_, hbel2.setCell (Nat.le_refl _) _⟩
            · intro j hj; rw [wd_set, if_neg (by omega)]; exact HI2.out.2.1 j (by omega)
            · have hm := Sm_set_mid L2 (i + n') cr (n + n') (by rw [HLM2.out]; omega) (by omega)
              rw [HI2.out.2.1 _ (by omega), Nat.zero_mul, Nat.add_zero] at hm
              have h2 := HI2.out.2.2
              rw [HK2.out, Sm_ge l' (by rw [← HL'.out]; exact Nat.le_refl _)] at h2
              rw [hm, h2, Sm, HX.out, Nat.add_mul]
              congr 1
              rw [Nat.mul_assoc, Nat.mul_comm (val l'), ← Nat.mul_assoc]
            · exact HB2.out.setW (i + n') _ _ rfl
          case measure => simp [intOf]; omega
    · have hkk : i = n := by omega
      subst hkk
      have hv2 : val L = val l * val l' := by
        have h1 := HI.out.2.2
        rw [Sm_ge L (by rw [HLM.out]; exact Nat.le_refl _), Sm_ge l (by rw [← HL.out]; omega)] at h1
        exact h1
      have HV2 := Lib.hid hv2
      clear hv2
      go_wp2_with fail
      refine (r_trim_c _ _ (i + n') (i + n') L ?_ ?_).mono ?_
      · exact HB.out.wdN HI.out.1 HLM.out
      · omega
      rintro e w1 ⟨A1, n1, c1, rfl, h1, hb1⟩
      go_wp2
      go_ret
      rw [HV2.out] at h1
      exact ⟨_, _, _, rfl, h1, hbel.trans (hb1.mono hbel.size)⟩
theorem r_mul_C (w : World) (b : Bool) (A : Option Addr) (n c : Nat) (l : List Nat) (wa : Wd w A n c l) (hn : n ≤ 500000000000) (b' : Bool) (A' : Option Addr) (n' c' : Nat) (l' : List Nat) (wb : Wd w A' n' c' l') (hn' : n' ≤ 500000000000) :
    Calls Tryz.prog 82 #[.agg #[.bool b, .slice A n c], .agg #[.bool b', .slice A' n' c']] w (RetW w (wh (WD.z ⟨b, l⟩ * WD.z ⟨b', l'⟩))) := by
  have HL := Lib.hid wa.2.1
  have HL' := Lib.hid wb.2.1
  go_enter Tryz.func82, Tryz.ntmps82
  go_wp2_with fail
  have b0 : Below w.heap.size w (((w.alloc (.cells #[.bool b, .slice A n c] 67)).alloc (.cells #[.bool b', .slice A' n' c'] 67)).alloc (.cells #[.bool false, .slice none 0 0] 67)) := ((((Below.refl _ _).alloc (Nat.le_refl _) _).alloc (by simp) _).alloc (by simp; omega) _)
  generalize hW0 : (((w.alloc (.cells #[.bool b, .slice A n c] 67)).alloc (.cells #[.bool b', .slice A' n' c'] 67)).alloc (.cells #[.bool false, .slice none 0 0] 67)) = W0 at b0 ⊢
  have c00 : W0.cell? ⟨w.heap.size, 0, none⟩ = some (.bool b) := by subst hW0; simp [go_sem]
  have f00 : W0.frozen? ⟨w.heap.size, 0, none⟩ = false := by subst hW0; simp [go_sem]
  have c01 : W0.cell? ⟨w.heap.size, 1, none⟩ = some (.slice A n c) := by subst hW0; simp [go_sem]
  have f01 : W0.frozen? ⟨w.heap.size, 1, none⟩ = false := by subst hW0; simp [go_sem]
  have c10 : W0.cell? ⟨w.heap.size + 1, 0, none⟩ = some (.bool b') := by subst hW0; simp [go_sem]
  have f10 : W0.frozen? ⟨w.heap.size + 1, 0, none⟩ = false := by subst hW0; simp [go_sem]
  have c11 : W0.cell? ⟨w.heap.size + 1, 1, none⟩ = some (.slice A' n' c') := by subst hW0; simp [go_sem]
  have f11 : W0.frozen? ⟨w.heap.size + 1, 1, none⟩ = false := by subst hW0; simp [go_sem]
  have c20 : W0.cell? ⟨w.heap.size + 1 + 1, 0, none⟩ = some (.bool false) := by subst hW0; simp [go_sem]
  have f20 : W0.frozen? ⟨w.heap.size + 1 + 1, 0, none⟩ = false := by subst hW0; simp [go_sem]
  have c21 : W0.cell? ⟨w.heap.size + 1 + 1, 1, none⟩ = some (.slice none 0 0) := by subst hW0; simp [go_sem]
  have f21 : W0.frozen? ⟨w.heap.size + 1 + 1, 1, none⟩ = false := by subst hW0; simp [go_sem]
  have x0 : Box W0 w.heap.size 67 := by subst hW0; exact ((boxAt _ _ _ (by simp)).alloc _).alloc _
  have x1 : Box W0 (w.heap.size + 1) 67 := by subst hW0; exact (boxAt _ _ _ (by simp)).alloc _
  have x2 : Box W0 (w.heap.size + 1 + 1) 67 := by subst hW0; exact boxAt _ _ _ (by simp)
  have hm0 : Made (w.heap.size + 1 + 1) (w.heap.size + 1 + 1 + 1) 2 W0 := by subst hW0; exact made1 (by simp)
  have hs0 : w.heap.size + 1 + 1 + 1 ≤ W0.heap.size := by subst hW0; simp
  clear hW0
  have wa := wa.belw b0
  have wb := wb.belw b0
  have r0 : Below W0.heap.size W0 W0 := brefl _
  have hRB : w.heap.size + 1 + 1 ≤ w.heap.size + 1 + 1 + 1 := by omega
  go_region_held3 (fun w' => Sees (w.heap.size + 1 + 1) W0 w') (first | exact Sees.of (Nat.le_trans hRB hs0) (by assumption) | exact Sees.of (Nat.le_trans hRB hs0) (below_drewN (by assumption) _) | exact (Sees.set (Sees.of (Nat.le_trans hRB hs0) (by assumption)) (by simp)) | exact (Sees.set (Sees.set (Sees.of (Nat.le_trans hRB hs0) (by assumption)) (by simp)) (by simp)))
    (first
      | (go_at_call 113; (with_reducible refine (r_neg_c _ b A n c l ?_ ?_).mono ?_); (exact wa); (omega); rintro e w1 ⟨rfl, hb1⟩; replace hb1 := bnext (below_drewN (brefl _) 1) hb1; have r1 := bnext r0 hb1; replace wa := wa.belw hb1; replace wb := wb.belw hb1)
      | (go_at_call 113; (with_reducible refine (r_neg_c _ b' A' n' c' l' ?_ ?_).mono ?_); (exact wb); (omega); rintro e w2 ⟨rfl, hb2⟩; have r2 := bnext r1 hb2; replace wa := wa.belw hb2; replace wb := wb.belw hb2)
      | (go_at_call 112; (with_reducible refine (r_mag_c _ b A n c l ?_ ?_).mono ?_); (exact wa); (omega); rintro e w3 ⟨A1, n1, c1, rfl, h1, hb3⟩; have r3 := bnext r2 hb3; replace wa := wa.belw hb3; replace wb := wb.belw hb3)
      | (go_at_call 112; (with_reducible refine (r_mag_c _ b' A' n' c' l' ?_ ?_).mono ?_); (exact wb); (omega); rintro e w4 ⟨A2, n2, c2, rfl, h2, hb4⟩; have r4 := bnext r3 hb4; replace wa := wa.belw hb4; replace wb := wb.belw hb4; replace h1 := h1.belw hb4)
      | (go_at_call 114; (with_reducible refine (r_times_c _ A1 n1 c1 (WD.m ⟨b, l⟩) ?_ ?_ A2 n2 c2 (WD.m ⟨b', l'⟩) ?_ ?_).mono ?_); (exact h1); (exact Nat.le_trans (h1.m_len (by rw [← HL.out]; exact hn)) (by decide)); (exact h2); (exact Nat.le_trans (h2.m_len (by rw [← HL'.out]; exact hn')) (by decide)); rintro e w5 ⟨A3, n3, c3, rfl, h3, hb5⟩; have r5 := bnext r4 hb5; replace wa := wa.belw hb5; replace wb := wb.belw hb5; replace h1 := h1.belw hb5; replace h2 := h2.belw hb5)
      | (go_at_call 87; (with_reducible refine (r_form_e _ (!(WD.s ⟨b, l⟩ == WD.s ⟨b', l'⟩)) A3 n3 c3 (digs (val (WD.m ⟨b, l⟩) * val (WD.m ⟨b', l'⟩))) (WD.z ⟨b, l⟩ * WD.z ⟨b', l'⟩) ?_ ?_ ?_).mono ?_); (exact h3); (rw [h3.2.1]; exact times_len h1 h2 (Nat.le_trans (Nat.add_le_add (h1.m_len (by rw [← HL.out]; exact hn)) (h2.m_len (by rw [← HL'.out]; exact hn'))) (by decide))); (rw [val_digs]; exact (z_mul _ _).symm); rintro e w6 ⟨A4, n4, c4, rfl, h4, hb6⟩; have r6 := bnext r5 hb6; replace wa := wa.belw hb6; replace wb := wb.belw hb6; replace h1 := h1.belw hb6; replace h2 := h2.belw hb6; replace h3 := h3.belw hb6; obtain ⟨⟨sc, sf⟩, sr, sz⟩ := Seen.of (by omega) hs0 hm0 r6))
  clear hRB
  go_wp2_with fail
  refine bodyPost_ret (v := .agg #[.bool _, .slice A4 n4 c4]) (by simp [results, Tryz.results82, go_sem, sr]; rfl) rfl ?_
  have x := x2.below r6
  refine retW ?_ ?_ ?_
  · rfl
  · exact h4.keep (kp2 x (by decide) _ _ _ _)
  · exact ((b0.trans (r6.mono b0.size)).setCell (by dsimp only; omega) _).setCell (by dsimp only; omega) _
end Go.Proofs.YtfbigmdpdcpkfaaGreatDoor

namespace Go.Proofs.YtfbigmdpdcpkfaaGreatDoor
open Go Go.RowKit Bn
theorem r01_mul (w : World) (b : Bool) (A : Option Addr) (n c : Nat) (z : Int) (k : Nat) (h : IZ w b A n c z k) (b' : Bool) (A' : Option Addr) (n' c' : Nat) (z' : Int) (k' : Nat) (h' : IZ w b' A' n' c' z' k') (hk : k + k' ≤ 1000000000) : Calls Tryz.prog 82 #[.agg #[.bool b, .slice A n c], .agg #[.bool b', .slice A' n' c']] w (RetI w (z * z') (k + k')) := by
  have hz := h.lt
  have hz' := h'.lt
  obtain ⟨l, h1, rfl, h3⟩ := h
  obtain ⟨l', h1', rfl, h3'⟩ := h'
  exact (r_mul_C w b A n c l h1 (by omega) b' A' n' c' l' h1' (by omega)).mono fun _ _ r => r.i (natAbs_mul_lt hz hz')
end Go.Proofs.YtfbigmdpdcpkfaaGreatDoor

namespace Go.Proofs.YtfbigmdpdcpkfaaGreatDoor
open Go Go.RowKit Bn
attribute [local go_sem ↓] Go.wp_at_zero Go.wp_at_succ
theorem g_neg (w : World) (b : Bool) (A : Option Addr) (n c : Nat) (D : Option Addr) (m e : Nat) (q : Rat) (k : Nat) (h : QZ w b A n c D m e q k) (h0 : 0 < k) (hk : k ≤ 40000000) :
    Calls Tryz.prog 44 #[.agg #[.bool b, .slice A n c, .slice D m e]] w (RetF w (-q) k) := by
  have HS := Lib.hid (h.sz h0)
  go_enter Tryz.func44, Tryz.ntmps44
  go_wp2_with fail
  (with_reducible refine (g_parts _ b A n c D m e (q) (k) ?_ ?_ ?_).mono ?_); (exact (h.belw (((Below.refl _ _).alloc (Nat.le_refl _) _).alloc (by simp) _))); (first | omega | decide | assumption); (first | omega | decide | assumption); rintro e w1 ⟨b1, A1, n1, c1, b'1, A'1, n'1, c'1, rfl, h1, h'1, hb1⟩
  have q1 := (((Below.refl _ _).alloc (Nat.le_refl _) _).alloc (by simp) _).trans (hb1.mono (by simp <;> omega))
  replace h := h.belw q1
  have x1a : Blk w1 w.heap.size 39 #[.bool b, .slice A n c, .slice D m e] := ((blkAt _ _ _ (by simp)).alloc _).below hb1 (by simp <;> omega)
  have x1b := (blkAt _ _ _ (g := w.heap.size + 1) (by simp)).below hb1 (by simp)
  have bw1 := (brefl w).trans (q1.mono (brefl w).size)
  have lw1 : w.heap.size + 2 ≤ w1.heap.size := by have := hb1.size; simp at this; omega
  clear q1
  go_wp2_with fail
  have p2 := (((Kp.refl w1).alloc (.cells #[.bool b1, .slice A1 n1 c1] 67)).alloc (.cells #[.bool b'1, .slice A'1 n'1 c'1] 67))
  have bw2 := ((bw1.alloc (by first | omega | (simp <;> omega)) (.cells #[.bool b1, .slice A1 n1 c1] 67)).alloc (by first | omega | (simp <;> omega)) (.cells #[.bool b'1, .slice A'1 n'1 c'1] 67))
  have x2a : Blk ((w1.alloc (.cells #[.bool b1, .slice A1 n1 c1] 67)).alloc (.cells #[.bool b'1, .slice A'1 n'1 c'1] 67)) w1.heap.size 67 #[.bool b1, .slice A1 n1 c1] := ((blkAt _ _ _ (by simp)).alloc (.cells #[.bool b'1, .slice A'1 n'1 c'1] 67))
  have x2b : Blk ((w1.alloc (.cells #[.bool b1, .slice A1 n1 c1] 67)).alloc (.cells #[.bool b'1, .slice A'1 n'1 c'1] 67)) (w1.heap.size + 1) 67 #[.bool b'1, .slice A'1 n'1 c'1] := (blkAt _ _ _ (by simp))
  replace x1a := ((x1a.alloc (.cells #[.bool b1, .slice A1 n1 c1] 67)).alloc (.cells #[.bool b'1, .slice A'1 n'1 c'1] 67))
  replace x1b := ((x1b.alloc (.cells #[.bool b1, .slice A1 n1 c1] 67)).alloc (.cells #[.bool b'1, .slice A'1 n'1 c'1] 67))
  have lw2 : w1.heap.size + 2 ≤ ((w1.alloc (.cells #[.bool b1, .slice A1 n1 c1] 67)).alloc (.cells #[.bool b'1, .slice A'1 n'1 c'1] 67)).heap.size := by simp
  generalize hE2 : ((w1.alloc (.cells #[.bool b1, .slice A1 n1 c1] 67)).alloc (.cells #[.bool b'1, .slice A'1 n'1 c'1] 67)) = w2 at p2 bw2 lw2 x2a x2b x1a x1b ⊢
  clear hE2
  replace h := h.keep p2
  replace h1 := h1.keep p2
  replace h'1 := h'1.keep p2
  clear bw1
  obtain ⟨lx1aa, lx1ab, lx1ac, lx1ad⟩ := lts0 x1a.lt
  have cx1ba : w2.cell? ⟨w.heap.size + 1, 0, none⟩ = some (.bool false) := x1b.cell 0
  have fx1ba : w2.frozen? ⟨w.heap.size + 1, 0, none⟩ = false := x1b.frozen 0
  have cx1bb : w2.cell? ⟨w.heap.size + 1, 1, none⟩ = some (.slice none 0 0) := x1b.cell 1
  have fx1bb : w2.frozen? ⟨w.heap.size + 1, 1, none⟩ = false := x1b.frozen 1
  have cx1bc : w2.cell? ⟨w.heap.size + 1, 2, none⟩ = some (.slice none 0 0) := x1b.cell 2
  have fx1bc : w2.frozen? ⟨w.heap.size + 1, 2, none⟩ = false := x1b.frozen 2
  obtain ⟨lx1ba, lx1bb, lx1bc, lx1bd⟩ := lts1 x1b.lt
  obtain ⟨cx2aa, cx2ab⟩ := x2a.c2
  obtain ⟨lx2aa, lx2ab, lx2ac, lx2ad⟩ := lts0 x2a.lt
  obtain ⟨cx2ba, cx2bb⟩ := x2b.c2
  obtain ⟨lx2ba, lx2bb, lx2bc, lx2bd⟩ := lts1 x2b.lt
  have nfx1_0_0 : ¬ w.heap.size = w.heap.size + 1 := by omega
  have nex1_0_0 : ¬ w.heap.size = w.heap.size + 1 := by omega
  have nfx2_0_0 : ¬ w1.heap.size = w.heap.size + 1 := by omega
  have nex2_0_0 : ¬ w1.heap.size = w.heap.size + 1 := by omega
  have nfx2_1_0 : ¬ w1.heap.size + 1 = w.heap.size + 1 := by omega
  have nex2_1_0 : ¬ w1.heap.size = w.heap.size := by omega
  go_region_held3 (fun w' => SeesX w2.heap.size (w.heap.size + 1) w2 w') (first | with_reducible exact SeesX.of (Nat.le_refl _) (by assumption) | with_reducible exact SeesX.of (Nat.le_refl _) (brefl _).drew | with_reducible exact (SeesX.set (SeesX.set (SeesX.set (SeesX.of (Nat.le_refl _) (by assumption))))) | with_reducible exact (SeesX.set (SeesX.set (SeesX.of (Nat.le_refl _) (by assumption)))) | with_reducible exact (SeesX.set (SeesX.of (Nat.le_refl _) (by assumption))) | exact SeesX.of (Nat.le_refl _) (below_drewN (brefl _) 1) | exact SeesX.of (Nat.le_refl _) (below_drewN (by assumption) _))
    (first
      | (go_at_call 85; (with_reducible refine (r01_neg _ b1 A1 n1 c1 ((q).num) ((k)) ?_ ?_).mono ?_); (exact h1.iz); (first | omega | decide | assumption); rintro e w3 ⟨b3, A3, n3, c3, rfl, h3, hb3⟩; replace hb3 := bnext (below_drewN (brefl _) 1) hb3; have q3 : Below w2.heap.size w2 w3 := bnext (brefl w2) hb3; replace h := h.belw hb3; replace h1 := h1.belw hb3; replace h'1 := h'1.belw hb3)
      | (go_at_call 83; (with_reducible refine (g_form _ b3 A3 n3 c3 (-((q).num)) (((k))) ?_ b'1 A'1 n'1 c'1 (((q).den : Int)) ((k)) ?_ (-q) (k) ?_ ?_ ?_ ?_).mono ?_); (exact h3.iz); (exact h'1.iz); (exact den_ne _); (exact (neg_q q).symm); (exact Sz_neg HS.out); (omega); rintro e w4 ⟨b4, A4, n4, c4, A'4, n'4, c'4, rfl, h4, hb4⟩; have q4 : Below w2.heap.size w2 w4 := bnext q3 hb4; replace h := h.belw hb4; replace h1 := h1.belw hb4; replace h'1 := h'1.belw hb4; replace h3 := h3.belw hb4; have x1b := x1b.b q4; obtain ⟨cx1ba, cx1bb, cx1bc⟩ := x1b.c3; obtain ⟨fx1ba, fx1bb, fx1bc⟩ := x1b.f3))
  have bw4 := bw2.trans (q4.mono bw2.size)
  clear lx1aa lx1ab lx1ac lx1ad cx1ba fx1ba cx1bb fx1bb cx1bc fx1bc lx1ba lx1bb lx1bc lx1bd cx2aa cx2ab lx2aa lx2ab lx2ac lx2ad cx2ba cx2bb lx2ba lx2bb lx2bc lx2bd
  replace x1a := x1a.b q4
  replace x2a := x2a.b q4
  replace x2b := x2b.b q4
  have lw4 := q4.size
  obtain ⟨cx1ba, cx1bb, cx1bc⟩ := x1b.c3
  obtain ⟨fx1ba, fx1bb, fx1bc⟩ := x1b.f3
  go_wp2_with fail
  refine bodyPost_ret (v := .agg #[.bool b4, .slice A4 n4 c4, .slice A'4 n'4 c'4]) (by simp [results, Tryz.results44, go_sem, *] <;> first | rfl | exact ⟨rfl, rfl⟩) rfl ?_
  exact ⟨b4, A4, n4, c4, A'4, n'4, c'4, rfl, h4.keep ((((Kp.refl w4).sb (w.heap.size + 1) 0 x1b.box (by decide) (.bool b4)).sb (w.heap.size + 1) 1 (x1b.box.set ⟨w.heap.size + 1, 0, none⟩ (.bool b4)) (by decide) (.slice A4 n4 c4)).sb (w.heap.size + 1) 2 ((x1b.box.set ⟨w.heap.size + 1, 0, none⟩ (.bool b4)).set ⟨w.heap.size + 1, 1, none⟩ (.slice A4 n4 c4)) (by decide) (.slice A'4 n'4 c'4)), (((bw4.sc (w.heap.size + 1) 0 (by omega) (.bool b4)).sc (w.heap.size + 1) 1 (by omega) (.slice A4 n4 c4)).sc (w.heap.size + 1) 2 (by omega) (.slice A'4 n'4 c'4))⟩
theorem g_add (w : World) (b : Bool) (A : Option Addr) (n c : Nat) (D : Option Addr) (m e : Nat) (q : Rat) (k : Nat) (h : QZ w b A n c D m e q k) (b' : Bool) (A' : Option Addr) (n' c' : Nat) (D' : Option Addr) (m' e' : Nat) (q' : Rat) (k' : Nat) (h' : QZ w b' A' n' c' D' m' e' q' k') (h0 : 0 < k) (hk : k ≤ 40000000) (h0' : 0 < k') (hk' : k' ≤ 40000000) :
    Calls Tryz.prog 78 #[.agg #[.bool b, .slice A n c, .slice D m e], .agg #[.bool b', .slice A' n' c', .slice D' m' e']] w (RetF w (q + q') (k + k' + 1)) := by
  have HS := Lib.hid (h.sz h0)
  have HS' := Lib.hid (h'.sz h0')
  go_enter Tryz.func78, Tryz.ntmps78
  go_wp2_with fail
  (with_reducible refine (g_parts _ b A n c D m e (q) (k) ?_ ?_ ?_).mono ?_); (exact (h.belw ((((Below.refl _ _).alloc (Nat.le_refl _) _).alloc (by simp) _).alloc (by simp <;> omega) _))); (first | omega | decide | assumption); (first | omega | decide | assumption); rintro e w1 ⟨b1, A1, n1, c1, b'1, A'1, n'1, c'1, rfl, h1, h'1, hb1⟩
  have q1 := ((((Below.refl _ _).alloc (Nat.le_refl _) _).alloc (by simp) _).alloc (by simp <;> omega) _).trans (hb1.mono (by simp <;> omega))
  replace h := h.belw q1
  replace h' := h'.belw q1
  have x1a : Blk w1 w.heap.size 39 #[.bool b, .slice A n c, .slice D m e] := (((blkAt _ _ _ (by simp)).alloc _).alloc _).below hb1 (by simp <;> omega)
  have x1b := ((blkAt _ _ _ (g := w.heap.size + 1) (by simp)).alloc _).below hb1 (by simp <;> omega)
  have x1c := (blkAt _ _ _ (g := w.heap.size + 1 + 1) (by simp)).below hb1 (by simp)
  have bw1 := (brefl w).trans (q1.mono (brefl w).size)
  have lw1 : w.heap.size + 3 ≤ w1.heap.size := by have := hb1.size; simp at this; omega
  clear q1
  obtain ⟨cx1ba, cx1bb, cx1bc⟩ := x1b.c3
  obtain ⟨lx1ba, lx1bb, lx1bc, lx1bd⟩ := lts1 x1b.lt
  go_wp2_with fail
  (with_reducible refine (g_parts _ b' A' n' c' D' m' e' (q') (k') ?_ ?_ ?_).mono ?_); (exact (h'.belw (((Below.refl _ _).alloc (Nat.le_refl _) _).alloc (by simp) _))); (first | omega | decide | assumption); (first | omega | decide | assumption); rintro e w2 ⟨b2, A2, n2, c2, b'2, A'2, n'2, c'2, rfl, h2, h'2, hb2⟩
  clear cx1ba cx1bb cx1bc lx1ba lx1bb lx1bc lx1bd
  have q2 := (((Below.refl _ _).alloc (Nat.le_refl _) _).alloc (by simp) _).trans (hb2.mono (by simp <;> omega))
  replace h := h.belw q2
  replace h' := h'.belw q2
  replace h1 := h1.belw q2
  replace h'1 := h'1.belw q2
  replace x1a := x1a.b q2
  replace x1b := x1b.b q2
  replace x1c := x1c.b q2
  have x2a : Blk w2 w1.heap.size 67 #[.bool b1, .slice A1 n1 c1] := ((blkAt _ _ _ (by simp)).alloc _).below hb2 (by simp <;> omega)
  have x2b := (blkAt _ _ _ (g := w1.heap.size + 1) (by simp)).below hb2 (by simp)
  have bw2 := bw1.trans (q2.mono bw1.size)
  have lw2 : w1.heap.size + 2 ≤ w2.heap.size := by have := hb2.size; simp at this; omega
  clear q2 bw1
  go_wp2_with fail
  have p3 := (((Kp.refl w2).alloc (.cells #[.bool b2, .slice A2 n2 c2] 67)).alloc (.cells #[.bool b'2, .slice A'2 n'2 c'2] 67))
  have bw3 := ((bw2.alloc (by first | omega | (simp <;> omega)) (.cells #[.bool b2, .slice A2 n2 c2] 67)).alloc (by first | omega | (simp <;> omega)) (.cells #[.bool b'2, .slice A'2 n'2 c'2] 67))
  have x3a : Blk ((w2.alloc (.cells #[.bool b2, .slice A2 n2 c2] 67)).alloc (.cells #[.bool b'2, .slice A'2 n'2 c'2] 67)) w2.heap.size 67 #[.bool b2, .slice A2 n2 c2] := ((blkAt _ _ _ (by simp)).alloc (.cells #[.bool b'2, .slice A'2 n'2 c'2] 67))
  have x3b : Blk ((w2.alloc (.cells #[.bool b2, .slice A2 n2 c2] 67)).alloc (.cells #[.bool b'2, .slice A'2 n'2 c'2] 67)) (w2.heap.size + 1) 67 #[.bool b'2, .slice A'2 n'2 c'2] := (blkAt _ _ _ (by simp))
  replace x1a := ((x1a.alloc (.cells #[.bool b2, .slice A2 n2 c2] 67)).alloc (.cells #[.bool b'2, .slice A'2 n'2 c'2] 67))
  replace x1b := ((x1b.alloc (.cells #[.bool b2, .slice A2 n2 c2] 67)).alloc (.cells #[.bool b'2, .slice A'2 n'2 c'2] 67))
  replace x1c := ((x1c.alloc (.cells #[.bool b2, .slice A2 n2 c2] 67)).alloc (.cells #[.bool b'2, .slice A'2 n'2 c'2] 67))
  replace x2a := ((x2a.alloc (.cells #[.bool b2, .slice A2 n2 c2] 67)).alloc (.cells #[.bool b'2, .slice A'2 n'2 c'2] 67))
  replace x2b := ((x2b.alloc (.cells #[.bool b2, .slice A2 n2 c2] 67)).alloc (.cells #[.bool b'2, .slice A'2 n'2 c'2] 67))
  have lw3 : w2.heap.size + 2 ≤ ((w2.alloc (.cells #[.bool b2, .slice A2 n2 c2] 67)).alloc (.cells #[.bool b'2, .slice A'2 n'2 c'2] 67)).heap.size := by simp
  generalize hE3 : ((w2.alloc (.cells #[.bool b2, .slice A2 n2 c2] 67)).alloc (.cells #[.bool b'2, .slice A'2 n'2 c'2] 67)) = w3 at p3 bw3 lw3 x3a x3b x1a x1b x1c x2a x2b ⊢
  clear hE3
  replace h := h.keep p3
  replace h' := h'.keep p3
  replace h1 := h1.keep p3
  replace h'1 := h'1.keep p3
  replace h2 := h2.keep p3
  replace h'2 := h'2.keep p3
  clear bw2
  obtain ⟨cx2aa, cx2ab⟩ := x2a.c2
  obtain ⟨lx2aa, lx2ab, lx2ac, lx2ad⟩ := lts0 x2a.lt
  obtain ⟨cx2ba, cx2bb⟩ := x2b.c2
  obtain ⟨lx2ba, lx2bb, lx2bc, lx2bd⟩ := lts1 x2b.lt
  obtain ⟨cx3aa, cx3ab⟩ := x3a.c2
  obtain ⟨lx3aa, lx3ab, lx3ac, lx3ad⟩ := lts0 x3a.lt
  obtain ⟨cx3ba, cx3bb⟩ := x3b.c2
  obtain ⟨lx3ba, lx3bb, lx3bc, lx3bd⟩ := lts1 x3b.lt
  refine wp_region_lin (B := w.heap.size) (fr := fun xf => ⟨List.toArray (.agg #[.bool b, .slice A n c, .slice D m e] :: .agg #[.bool b', .slice A' n' c', .slice D' m' e'] :: .pointer (some ⟨w.heap.size, 0, none⟩) :: .pointer (some ⟨w.heap.size + 1, 0, none⟩) :: .pointer (some ⟨w.heap.size + 1 + 1, 0, none⟩) :: .pointer (some ⟨w1.heap.size, 0, none⟩) :: .pointer (some ⟨w1.heap.size + 1, 0, none⟩) :: .pointer (some ⟨w2.heap.size, 0, none⟩) :: .pointer (some ⟨w2.heap.size + 1, 0, none⟩) :: .tuple #[.agg #[.bool b1, .slice A1 n1 c1], .agg #[.bool b'1, .slice A'1 n'1 c'1]] :: .agg #[.bool b, .slice A n c, .slice D m e] :: .tuple #[.agg #[.bool b1, .slice A1 n1 c1], .agg #[.bool b'1, .slice A'1 n'1 c'1]] :: .agg #[.bool b1, .slice A1 n1 c1] :: .agg #[.bool b'1, .slice A'1 n'1 c'1] :: .tuple #[.agg #[.bool b2, .slice A2 n2 c2], .agg #[.bool b'2, .slice A'2 n'2 c'2]] :: .agg #[.bool b', .slice A' n' c', .slice D' m' e'] :: .tuple #[.agg #[.bool b2, .slice A2 n2 c2], .agg #[.bool b'2, .slice A'2 n'2 c'2]] :: .agg #[.bool b2, .slice A2 n2 c2] :: .agg #[.bool b'2, .slice A'2 n'2 c'2] :: xf 0 :: xf 1 :: xf 2 :: xf 3 :: xf 4 :: xf 5 :: xf 6 :: xf 7 :: xf 8 :: xf 9 :: xf 10 :: []), []⟩) (R := fun i => List.getD ((PEq (.agg #[.bool b1, .slice A1 n1 c1])) :: (PEq (.agg #[.bool b'2, .slice A'2 n'2 c'2])) :: (VI (((q).num) * (((q').den : Int))) (((k)) + ((k')))) :: (PEq (.agg #[.bool b2, .slice A2 n2 c2])) :: (PEq (.agg #[.bool b'1, .slice A'1 n'1 c'1])) :: (VI (((q').num) * (((q).den : Int))) (((k')) + ((k)))) :: (VI ((((q).num) * (((q').den : Int))) + (((q').num) * (((q).den : Int)))) ((((k)) + ((k'))) + (((k')) + ((k))) + 1)) :: (PEq (.agg #[.bool b'1, .slice A'1 n'1 c'1])) :: (PEq (.agg #[.bool b'2, .slice A'2 n'2 c'2])) :: (VI ((((q).den : Int)) * (((q').den : Int))) (((k)) + ((k')))) :: (VQ (q + q') (k + k' + 1)) :: PAny :: []) i (fun _ _ => True)) (es := []) (ow := [⟨w.heap.size, 12, 0, 39, #[.bool b, .slice A n c, .slice D m e], CAny⟩, ⟨w.heap.size + 1, 12, 0, 39, #[.bool b', .slice A' n' c', .slice D' m' e'], CAny⟩, ⟨w.heap.size + 1 + 1, 11, 0, 39, #[.bool false, .slice none 0 0, .slice none 0 0], CQ (q + q') (k + k' + 1)⟩, ⟨w1.heap.size, 12, 0, 67, #[.bool b1, .slice A1 n1 c1], CAny⟩, ⟨w1.heap.size + 1, 12, 0, 67, #[.bool b'1, .slice A'1 n'1 c'1], CAny⟩, ⟨w2.heap.size, 12, 0, 67, #[.bool b2, .slice A2 n2 c2], CAny⟩, ⟨w2.heap.size + 1, 12, 0, 67, #[.bool b'2, .slice A'2 n'2 c'2], CAny⟩]) (x0 := (fun _ => undef)) (by kernel_rfl)
    (each_of ⟨fun _ _ => rfl, fun _ _ => rfl, fun _ _ => rfl, fun _ _ => rfl, fun _ _ => rfl, fun _ _ => rfl, fun _ _ => rfl, fun _ _ => rfl, fun _ _ => rfl, fun _ _ => rfl, fun _ _ => rfl, fun _ _ => rfl, trivial⟩) (each_of (acyc_from _ 0 (by kernel_rfl))) (AllStab.get _ ⟨stEq _, stEq _, stI _ _, stEq _, stEq _, stI _ _, stI _ _, stEq _, stEq _, stI _ _, stQ _ _, stAny, trivial⟩)
    (fun _ h => nomatch h) (List.forall_mem_cons.2 ⟨scAny, List.forall_mem_cons.2 ⟨scAny, List.forall_mem_cons.2 ⟨scQ _ _, List.forall_mem_cons.2 ⟨scAny, List.forall_mem_cons.2 ⟨scAny, List.forall_mem_cons.2 ⟨scAny, List.forall_mem_cons.2 ⟨scAny, fun _ h => nomatch h⟩⟩⟩⟩⟩⟩⟩) (fun _ h => nomatch h) bw3.size
    (List.forall_mem_cons.2 ⟨⟨x1a, by show w.heap.size ≤ w.heap.size; omega⟩, List.forall_mem_cons.2 ⟨⟨x1b, by show w.heap.size ≤ w.heap.size + 1; omega⟩, List.forall_mem_cons.2 ⟨⟨x1c, by show w.heap.size ≤ w.heap.size + 1 + 1; omega⟩, List.forall_mem_cons.2 ⟨⟨x2a, by show w.heap.size ≤ w1.heap.size; omega⟩, List.forall_mem_cons.2 ⟨⟨x2b, by show w.heap.size ≤ w1.heap.size + 1; omega⟩, List.forall_mem_cons.2 ⟨⟨x3a, by show w.heap.size ≤ w2.heap.size; omega⟩, List.forall_mem_cons.2 ⟨⟨x3b, by show w.heap.size ≤ w2.heap.size + 1; omega⟩, fun _ h => nomatch h⟩⟩⟩⟩⟩⟩⟩) (ownDist (by simp <;> omega))
    (each_of ⟨?_, ?_, ?_, ?_, ?_, ?_, ?_, ?_, ?_, ?_, ?_, ?_, trivial⟩) ?_
  · exact .inl ⟨by simp, by simp, fun xf wq hk hbl hd K hK => by
      have y : Blk wq w1.heap.size 67 #[.bool b1, .slice A1 n1 c1] := hbl _ (List.Mem.tail _ (List.Mem.tail _ (List.Mem.tail _ (List.Mem.head _)))) (by simp [Region.binds])
      obtain ⟨hcl0, hcl1⟩ := y.c2
      (try dsimp only)
      go_simp
      exact hK.out (.agg #[.bool b1, .slice A1 n1 c1]) _ rfl (brefl _)⟩
  · exact .inl ⟨by simp, by simp, fun xf wq hk hbl hd K hK => by
      have y : Blk wq (w2.heap.size + 1) 67 #[.bool b'2, .slice A'2 n'2 c'2] := hbl _ (List.Mem.tail _ (List.Mem.tail _ (List.Mem.tail _ (List.Mem.tail _ (List.Mem.tail _ (List.Mem.tail _ (List.Mem.head _))))))) (by simp [Region.binds])
      obtain ⟨hcl0, hcl1⟩ := y.c2
      (try dsimp only)
      go_simp
      exact hK.out (.agg #[.bool b'2, .slice A'2 n'2 c'2]) _ rfl (brefl _)⟩
  · exact .inl ⟨by simp, by simp, fun xf wq hk hbl hd K hK => by
      have d0 : xf 0 = .agg #[.bool b1, .slice A1 n1 c1] := hd ⟨0, .data⟩ (by simp) rfl
      have d1 : xf 1 = .agg #[.bool b'2, .slice A'2 n'2 c'2] := hd ⟨1, .data⟩ (by simp) rfl
      (try dsimp only); (try simp only [d0, d1])
      go_simp
      go_at_call 82
      (with_reducible refine (r01_mul _ b1 A1 n1 c1 ((q).num) ((k)) ?_ b'2 A'2 n'2 c'2 (((q').den : Int)) ((k')) ?_ ?_).mono ?_); (exact (h1.keep hk).iz); (exact (h'2.keep hk).iz); (first | omega | decide | assumption); rintro e wr ⟨b5, A5, n5, c5, rfl, h5, hbr⟩
      have hz := hK.out _ _ ⟨b5, A5, n5, c5, rfl, h5⟩ hbr
      simp only [d0, d1] at hz
      exact hz⟩
  · exact .inl ⟨by simp, by simp, fun xf wq hk hbl hd K hK => by
      have y : Blk wq w2.heap.size 67 #[.bool b2, .slice A2 n2 c2] := hbl _ (List.Mem.tail _ (List.Mem.tail _ (List.Mem.tail _ (List.Mem.tail _ (List.Mem.tail _ (List.Mem.head _)))))) (by simp [Region.binds])
      obtain ⟨hcl0, hcl1⟩ := y.c2
      (try dsimp only)
      go_simp
      exact hK.out (.agg #[.bool b2, .slice A2 n2 c2]) _ rfl (brefl _)⟩
  · exact .inl ⟨by simp, by simp, fun xf wq hk hbl hd K hK => by
      have y : Blk wq (w1.heap.size + 1) 67 #[.bool b'1, .slice A'1 n'1 c'1] := hbl _ (List.Mem.tail _ (List.Mem.tail _ (List.Mem.tail _ (List.Mem.tail _ (List.Mem.head _))))) (by simp [Region.binds])
      obtain ⟨hcl0, hcl1⟩ := y.c2
      (try dsimp only)
      go_simp
      exact hK.out (.agg #[.bool b'1, .slice A'1 n'1 c'1]) _ rfl (brefl _)⟩
  · exact .inl ⟨by simp, by simp, fun xf wq hk hbl hd K hK => by
      have d3 : xf 3 = .agg #[.bool b2, .slice A2 n2 c2] := hd ⟨3, .data⟩ (by simp) rfl
      have d4 : xf 4 = .agg #[.bool b'1, .slice A'1 n'1 c'1] := hd ⟨4, .data⟩ (by simp) rfl
      (try dsimp only); (try simp only [d3, d4])
      go_simp
      go_at_call 82
      (with_reducible refine (r01_mul _ b2 A2 n2 c2 ((q').num) ((k')) ?_ b'1 A'1 n'1 c'1 (((q).den : Int)) ((k)) ?_ ?_).mono ?_); (exact (h2.keep hk).iz); (exact (h'1.keep hk).iz); (first | omega | decide | assumption); rintro e wr ⟨b6, A6, n6, c6, rfl, h6, hbr⟩
      have hz := hK.out _ _ ⟨b6, A6, n6, c6, rfl, h6⟩ hbr
      simp only [d3, d4] at hz
      exact hz⟩
  · exact .inl ⟨by simp, by simp, fun xf wq hk hbl hd K hK => by
      obtain ⟨b5, A5, n5, c5, d2, h5⟩ : VI (((q).num) * (((q').den : Int))) (((k)) + ((k'))) (xf 2) wq := hd ⟨2, .data⟩ (by simp) rfl
      obtain ⟨b6, A6, n6, c6, d5, h6⟩ : VI (((q').num) * (((q).den : Int))) (((k')) + ((k))) (xf 5) wq := hd ⟨5, .data⟩ (by simp) rfl
      (try dsimp only); (try simp only [d2, d5])
      go_simp
      go_at_call 110
      (with_reducible refine (r01_add _ b5 A5 n5 c5 (((q).num) * (((q').den : Int))) (((k)) + ((k'))) ?_ b6 A6 n6 c6 (((q').num) * (((q).den : Int))) (((k')) + ((k))) ?_ ?_).mono ?_); (exact h5.iz); (exact h6.iz); (first | omega | decide | assumption); rintro e wr ⟨b7, A7, n7, c7, rfl, h7, hbr⟩
      have hz := hK.out _ _ ⟨b7, A7, n7, c7, rfl, h7⟩ hbr
      simp only [d2, d5] at hz
      exact hz⟩
  · exact .inl ⟨by simp, by simp, fun xf wq hk hbl hd K hK => by
      have y : Blk wq (w1.heap.size + 1) 67 #[.bool b'1, .slice A'1 n'1 c'1] := hbl _ (List.Mem.tail _ (List.Mem.tail _ (List.Mem.tail _ (List.Mem.tail _ (List.Mem.head _))))) (by simp [Region.binds])
      obtain ⟨hcl0, hcl1⟩ := y.c2
      (try dsimp only)
      go_simp
      exact hK.out (.agg #[.bool b'1, .slice A'1 n'1 c'1]) _ rfl (brefl _)⟩
  · exact .inl ⟨by simp, by simp, fun xf wq hk hbl hd K hK => by
      have y : Blk wq (w2.heap.size + 1) 67 #[.bool b'2, .slice A'2 n'2 c'2] := hbl _ (List.Mem.tail _ (List.Mem.tail _ (List.Mem.tail _ (List.Mem.tail _ (List.Mem.tail _ (List.Mem.tail _ (List.Mem.head _))))))) (by simp [Region.binds])
      obtain ⟨hcl0, hcl1⟩ := y.c2
      (try dsimp only)
      go_simp
      exact hK.out (.agg #[.bool b'2, .slice A'2 n'2 c'2]) _ rfl (brefl _)⟩
  · exact .inl ⟨by simp, by simp, fun xf wq hk hbl hd K hK => by
      have d7 : xf 7 = .agg #[.bool b'1, .slice A'1 n'1 c'1] := hd ⟨7, .data⟩ (by simp) rfl
      have d8 : xf 8 = .agg #[.bool b'2, .slice A'2 n'2 c'2] := hd ⟨8, .data⟩ (by simp) rfl
      (try dsimp only); (try simp only [d7, d8])
      go_simp
      go_at_call 82
      (with_reducible refine (r01_mul _ b'1 A'1 n'1 c'1 (((q).den : Int)) ((k)) ?_ b'2 A'2 n'2 c'2 (((q').den : Int)) ((k')) ?_ ?_).mono ?_); (exact (h'1.keep hk).iz); (exact (h'2.keep hk).iz); (first | omega | decide | assumption); rintro e wr ⟨b8, A8, n8, c8, rfl, h8, hbr⟩
      have hz := hK.out _ _ ⟨b8, A8, n8, c8, rfl, h8⟩ hbr
      simp only [d7, d8] at hz
      exact hz⟩
  · exact .inl ⟨by simp, by simp, fun xf wq hk hbl hd K hK => by
      obtain ⟨b7, A7, n7, c7, d6, h7⟩ : VI ((((q).num) * (((q').den : Int))) + (((q').num) * (((q).den : Int)))) ((((k)) + ((k'))) + (((k')) + ((k))) + 1) (xf 6) wq := hd ⟨6, .data⟩ (by simp) rfl
      obtain ⟨b8, A8, n8, c8, d9, h8⟩ : VI ((((q).den : Int)) * (((q').den : Int))) (((k)) + ((k'))) (xf 9) wq := hd ⟨9, .data⟩ (by simp) rfl
      (try dsimp only); (try simp only [d6, d9])
      go_simp
      go_at_call 83
      (with_reducible refine (g_form _ b7 A7 n7 c7 ((((q).num) * (((q').den : Int))) + (((q').num) * (((q).den : Int)))) ((((k)) + ((k'))) + (((k')) + ((k))) + 1) ?_ b8 A8 n8 c8 ((((q).den : Int)) * (((q').den : Int))) (((k)) + ((k'))) ?_ (q + q') (k + k' + 1) ?_ ?_ ?_ ?_).mono ?_); (exact h7.iz); (exact h8.iz); (exact Int.mul_ne_zero (den_ne _) (den_ne _)); (exact (add_q _ _).symm); (exact Sz_add HS.out HS'.out); (omega); rintro e wr ⟨b9, A9, n9, c9, A'9, n'9, c'9, rfl, h9, hbr⟩
      have hz := hK.out _ _ ⟨b9, A9, n9, c9, A'9, n'9, c'9, rfl, h9⟩ hbr
      simp only [d6, d9] at hz
      exact hz⟩
  · exact .inr (.inr (.inr ⟨⟨w.heap.size + 1 + 1, 11, 0, 39, #[.bool false, .slice none 0 0, .slice none 0 0], CQ (q + q') (k + k' + 1)⟩, by simp, rfl, by simp, by simp, (show KT 39 = false by decide), fun _ _ => True.intro, fun xf wq hblk hd => by
      obtain ⟨b9, A9, n9, c9, A'9, n'9, c'9, d10, h9⟩ : VQ (q + q') (k + k' + 1) (xf 10) wq := hd ⟨10, .data⟩ (by simp) rfl
      dsimp only at hblk
      refine ⟨[.bool b9, .slice A9 n9 c9, .slice A'9 n'9 c'9], fun w' hk => ⟨b9, A9, n9, c9, A'9, n'9, c'9, rfl, h9.keep hk⟩, fun K hK => ?_⟩
      have hc0 : wq.cell? ⟨w.heap.size + 1 + 1, 0, none⟩ = some (.bool false) := hblk.cell 0
      have hc1 : wq.cell? ⟨w.heap.size + 1 + 1, 1, none⟩ = some (.slice none 0 0) := hblk.cell 1
      have hc2 : wq.cell? ⟨w.heap.size + 1 + 1, 2, none⟩ = some (.slice none 0 0) := hblk.cell 2
      have hf0 : wq.frozen? ⟨w.heap.size + 1 + 1, 0, none⟩ = false := hblk.frozen 0
      have hf1 : wq.frozen? ⟨w.heap.size + 1 + 1, 1, none⟩ = false := hblk.frozen 1
      have hf2 : wq.frozen? ⟨w.heap.size + 1 + 1, 2, none⟩ = false := hblk.frozen 2
      (try dsimp only)
      simp only [d10]
      go_simp
      have hz := hK.out undef
      simp only [d10] at hz
      exact hz⟩))
  clear cx2aa cx2ab lx2aa lx2ab lx2ac lx2ad cx2ba cx2bb lx2ba lx2bb lx2bc lx2bd cx3aa cx3ab lx3aa lx3ab lx3ac lx3ad cx3ba cx3bb lx3ba lx3bb lx3bc lx3bd
  intro y4 w4 kq4 hbl4 lw4 how hrr hfl hds
  replace h := h.keep kq4
  replace h' := h'.keep kq4
  replace h1 := h1.keep kq4
  replace h'1 := h'1.keep kq4
  replace h2 := h2.keep kq4
  replace h'2 := h'2.keep kq4
  obtain ⟨_, z4_0, ez, _⟩ := how _ (List.Mem.head _)
  obtain rfl := ez (by simp)
  dsimp only at z4_0
  obtain ⟨_, z4_1, ez, _⟩ := how _ (List.Mem.tail _ (List.Mem.head _))
  obtain rfl := ez (by simp)
  dsimp only at z4_1
  obtain ⟨_, z4_2, _, ez⟩ := how _ (List.Mem.tail _ (List.Mem.tail _ (List.Mem.head _)))
  obtain ⟨b9, A9, n9, c9, A'9, n'9, c'9, rfl, h9⟩ := ez (by simp)
  dsimp only at z4_2
  obtain ⟨_, z4_3, ez, _⟩ := how _ (List.Mem.tail _ (List.Mem.tail _ (List.Mem.tail _ (List.Mem.head _))))
  obtain rfl := ez (by simp)
  dsimp only at z4_3
  obtain ⟨_, z4_4, ez, _⟩ := how _ (List.Mem.tail _ (List.Mem.tail _ (List.Mem.tail _ (List.Mem.tail _ (List.Mem.head _)))))
  obtain rfl := ez (by simp)
  dsimp only at z4_4
  obtain ⟨_, z4_5, ez, _⟩ := how _ (List.Mem.tail _ (List.Mem.tail _ (List.Mem.tail _ (List.Mem.tail _ (List.Mem.tail _ (List.Mem.head _))))))
  obtain rfl := ez (by simp)
  dsimp only at z4_5
  obtain ⟨_, z4_6, ez, _⟩ := how _ (List.Mem.tail _ (List.Mem.tail _ (List.Mem.tail _ (List.Mem.tail _ (List.Mem.tail _ (List.Mem.tail _ (List.Mem.head _)))))))
  obtain rfl := ez (by simp)
  dsimp only at z4_6
  (try dsimp only)
  clear hrr hfl how hds 
  clear x1a x1b x1c x2a x2b x3a x3b
  have bw4 := bw3.trans hbl4
  clear bw3
  have cz4_2_0 : w4.cell? ⟨w.heap.size + 1 + 1, 0, none⟩ = some (.bool b9) := z4_2.cell 0
  have cz4_2_1 : w4.cell? ⟨w.heap.size + 1 + 1, 1, none⟩ = some (.slice A9 n9 c9) := z4_2.cell 1
  have cz4_2_2 : w4.cell? ⟨w.heap.size + 1 + 1, 2, none⟩ = some (.slice A'9 n'9 c'9) := z4_2.cell 2
  obtain ⟨lz4_2_0, lz4_2_1, lz4_2_2, lz4_2_3⟩ := lts2 z4_2.lt
  go_wp2_with fail
  refine bodyPost_ret (v := .agg #[.bool b9, .slice A9 n9 c9, .slice A'9 n'9 c'9]) (by simp [results, Tryz.results78, go_sem, *] <;> first | rfl | exact ⟨rfl, rfl⟩) rfl ?_
  exact ⟨b9, A9, n9, c9, A'9, n'9, c'9, rfl, h9.keep (Kp.refl w4), bw4⟩
end Go.Proofs.YtfbigmdpdcpkfaaGreatDoor

namespace Go.Proofs.YtfbigmdpdcpkfaaGreatDoor
open Go Go.RowKit Bn
attribute [local go_sem ↓] Go.wp_at_zero Go.wp_at_succ
theorem g_of (w : World) (i : Int) (hi : -4294967296 < i) (hi2 : i < 4294967296) :
  Calls Tryz.prog 43 #[.int .i64 i] w (RetF w (i : Rat) 1) := by
 go_enter Tryz.func43, Tryz.ntmps43
 go_wp2_with fail
 (with_reducible refine (r01_of1 _ (i) ?_ ?_).mono ?_); (first | omega | decide | assumption); (first | omega | decide | assumption); rintro e w1 ⟨b1, A1, n1, c1, rfl, h1, hb1⟩
 have q1 := ((Below.refl _ _).alloc (Nat.le_refl _) _).trans (hb1.mono (by simp))
 have x1a : Blk w1 w.heap.size 39 #[.bool false, .slice none 0 0, .slice none 0 0] := (blkAt _ _ _ (by simp)).below hb1 (by simp)
 have bw1 := (brefl w).trans (q1.mono (brefl w).size)
 have lw1 : w.heap.size + 1 ≤ w1.heap.size := by have := hb1.size; simp at this; omega
 clear q1
 go_wp2_with fail
 (with_reducible refine (g_one _).mono ?_); rintro e w2 ⟨b2, A2, n2, c2, rfl, h2, q2⟩
 replace h1 := h1.belw q2
 replace x1a := x1a.b q2
 have bw2 := bw1.trans (q2.mono bw1.size)
 have lw2 := q2.size
 clear q2 bw1
 go_wp2_with fail
 (with_reducible refine (g_form _ b1 A1 n1 c1 (i) (1) ?_ b2 A2 n2 c2 (1) (1) ?_ ((i : Rat)) (1) ?_ ?_ ?_ ?_).mono ?_); (exact h1.iz); (exact h2.iz); (decide); (exact int_q i); (exact Sz_int (by omega) (by decide)); (decide); rintro e w3 ⟨b3, A3, n3, c3, A'3, n'3, c'3, rfl, h3, q3⟩
 replace h1 := h1.belw q3
 replace h2 := h2.belw q3
 replace x1a := x1a.b q3
 have bw3 := bw2.trans (q3.mono bw2.size)
 have lw3 := q3.size
 clear q3 bw2
 obtain ⟨cx1aa, cx1ab, cx1ac⟩ := x1a.c3
 obtain ⟨fx1aa, fx1ab, fx1ac⟩ := x1a.f3
 obtain ⟨lx1aa, lx1ab, lx1ac, lx1ad⟩ := lts0 x1a.lt
 go_wp2_with fail
 refine bodyPost_ret (v := .agg #[.bool b3, .slice A3 n3 c3, .slice A'3 n'3 c'3]) (by simp [results, Tryz.results43, go_sem, *] <;> first | rfl | exact ⟨rfl, rfl⟩) rfl ?_
 exact ⟨b3, A3, n3, c3, A'3, n'3, c'3, rfl, h3.keep ((((Kp.refl w3).sb w.heap.size 0 x1a.box (by decide) (.bool b3)).sb w.heap.size 1 (x1a.box.set ⟨w.heap.size, 0, none⟩ (.bool b3)) (by decide) (.slice A3 n3 c3)).sb w.heap.size 2 ((x1a.box.set ⟨w.heap.size, 0, none⟩ (.bool b3)).set ⟨w.heap.size, 1, none⟩ (.slice A3 n3 c3)) (by decide) (.slice A'3 n'3 c'3)), (((bw3.sc w.heap.size 0 (by omega) (.bool b3)).sc w.heap.size 1 (by omega) (.slice A3 n3 c3)).sc w.heap.size 2 (by omega) (.slice A'3 n'3 c'3))⟩
theorem g_mul (w : World) (b : Bool) (A : Option Addr) (n c : Nat) (D : Option Addr) (m e : Nat) (q : Rat) (k : Nat) (h : QZ w b A n c D m e q k) (b' : Bool) (A' : Option Addr) (n' c' : Nat) (D' : Option Addr) (m' e' : Nat) (q' : Rat) (k' : Nat) (h' : QZ w b' A' n' c' D' m' e' q' k') (h0 : 0 < k) (hk : k ≤ 40000000) (h0' : 0 < k') (hk' : k' ≤ 40000000) :
    Calls Tryz.prog 79 #[.agg #[.bool b, .slice A n c, .slice D m e], .agg #[.bool b', .slice A' n' c', .slice D' m' e']] w (RetF w (q * q') (k + k')) := by
  have HS := Lib.hid (h.sz h0)
  have HS' := Lib.hid (h'.sz h0')
  go_enter Tryz.func79, Tryz.ntmps79
  go_wp2_with fail
  (with_reducible refine (g_parts _ b A n c D m e (q) (k) ?_ ?_ ?_).mono ?_); (exact (h.belw ((((Below.refl _ _).alloc (Nat.le_refl _) _).alloc (by simp) _).alloc (by simp <;> omega) _))); (first | omega | decide | assumption); (first | omega | decide | assumption); rintro e w1 ⟨b1, A1, n1, c1, b'1, A'1, n'1, c'1, rfl, h1, h'1, hb1⟩
  have q1 := ((((Below.refl _ _).alloc (Nat.le_refl _) _).alloc (by simp) _).alloc (by simp <;> omega) _).trans (hb1.mono (by simp <;> omega))
  replace h := h.belw q1
  replace h' := h'.belw q1
  have x1a : Blk w1 w.heap.size 39 #[.bool b, .slice A n c, .slice D m e] := (((blkAt _ _ _ (by simp)).alloc _).alloc _).below hb1 (by simp <;> omega)
  have x1b := ((blkAt _ _ _ (g := w.heap.size + 1) (by simp)).alloc _).below hb1 (by simp <;> omega)
  have x1c := (blkAt _ _ _ (g := w.heap.size + 1 + 1) (by simp)).below hb1 (by simp)
  have bw1 := (brefl w).trans (q1.mono (brefl w).size)
  have lw1 : w.heap.size + 3 ≤ w1.heap.size := by have := hb1.size; simp at this; omega
  clear q1
  obtain ⟨cx1ba, cx1bb, cx1bc⟩ := x1b.c3
  obtain ⟨lx1ba, lx1bb, lx1bc, lx1bd⟩ := lts1 x1b.lt
  go_wp2_with fail
  (with_reducible refine (g_parts _ b' A' n' c' D' m' e' (q') (k') ?_ ?_ ?_).mono ?_); (exact (h'.belw (((Below.refl _ _).alloc (Nat.le_refl _) _).alloc (by simp) _))); (first | omega | decide | assumption); (first | omega | decide | assumption); rintro e w2 ⟨b2, A2, n2, c2, b'2, A'2, n'2, c'2, rfl, h2, h'2, hb2⟩
  clear cx1ba cx1bb cx1bc lx1ba lx1bb lx1bc lx1bd
  have q2 := (((Below.refl _ _).alloc (Nat.le_refl _) _).alloc (by simp) _).trans (hb2.mono (by simp <;> omega))
  replace h := h.belw q2
  replace h' := h'.belw q2
  replace h1 := h1.belw q2
  replace h'1 := h'1.belw q2
  replace x1a := x1a.b q2
  replace x1b := x1b.b q2
  replace x1c := x1c.b q2
  have x2a : Blk w2 w1.heap.size 67 #[.bool b1, .slice A1 n1 c1] := ((blkAt _ _ _ (by simp)).alloc _).below hb2 (by simp <;> omega)
  have x2b := (blkAt _ _ _ (g := w1.heap.size + 1) (by simp)).below hb2 (by simp)
  have bw2 := bw1.trans (q2.mono bw1.size)
  have lw2 : w1.heap.size + 2 ≤ w2.heap.size := by have := hb2.size; simp at this; omega
  clear q2 bw1
  go_wp2_with fail
  have p3 := (((Kp.refl w2).alloc (.cells #[.bool b2, .slice A2 n2 c2] 67)).alloc (.cells #[.bool b'2, .slice A'2 n'2 c'2] 67))
  have bw3 := ((bw2.alloc (by first | omega | (simp <;> omega)) (.cells #[.bool b2, .slice A2 n2 c2] 67)).alloc (by first | omega | (simp <;> omega)) (.cells #[.bool b'2, .slice A'2 n'2 c'2] 67))
  have x3a : Blk ((w2.alloc (.cells #[.bool b2, .slice A2 n2 c2] 67)).alloc (.cells #[.bool b'2, .slice A'2 n'2 c'2] 67)) w2.heap.size 67 #[.bool b2, .slice A2 n2 c2] := ((blkAt _ _ _ (by simp)).alloc (.cells #[.bool b'2, .slice A'2 n'2 c'2] 67))
  have x3b : Blk ((w2.alloc (.cells #[.bool b2, .slice A2 n2 c2] 67)).alloc (.cells #[.bool b'2, .slice A'2 n'2 c'2] 67)) (w2.heap.size + 1) 67 #[.bool b'2, .slice A'2 n'2 c'2] := (blkAt _ _ _ (by simp))
  replace x1a := ((x1a.alloc (.cells #[.bool b2, .slice A2 n2 c2] 67)).alloc (.cells #[.bool b'2, .slice A'2 n'2 c'2] 67))
  replace x1b := ((x1b.alloc (.cells #[.bool b2, .slice A2 n2 c2] 67)).alloc (.cells #[.bool b'2, .slice A'2 n'2 c'2] 67))
  replace x1c := ((x1c.alloc (.cells #[.bool b2, .slice A2 n2 c2] 67)).alloc (.cells #[.bool b'2, .slice A'2 n'2 c'2] 67))
  replace x2a := ((x2a.alloc (.cells #[.bool b2, .slice A2 n2 c2] 67)).alloc (.cells #[.bool b'2, .slice A'2 n'2 c'2] 67))
  replace x2b := ((x2b.alloc (.cells #[.bool b2, .slice A2 n2 c2] 67)).alloc (.cells #[.bool b'2, .slice A'2 n'2 c'2] 67))
  have lw3 : w2.heap.size + 2 ≤ ((w2.alloc (.cells #[.bool b2, .slice A2 n2 c2] 67)).alloc (.cells #[.bool b'2, .slice A'2 n'2 c'2] 67)).heap.size := by simp
  generalize hE3 : ((w2.alloc (.cells #[.bool b2, .slice A2 n2 c2] 67)).alloc (.cells #[.bool b'2, .slice A'2 n'2 c'2] 67)) = w3 at p3 bw3 lw3 x3a x3b x1a x1b x1c x2a x2b ⊢
  clear hE3
  replace h := h.keep p3
  replace h' := h'.keep p3
  replace h1 := h1.keep p3
  replace h'1 := h'1.keep p3
  replace h2 := h2.keep p3
  replace h'2 := h'2.keep p3
  clear bw2
  obtain ⟨lx1aa, lx1ab, lx1ac, lx1ad⟩ := lts0 x1a.lt
  obtain ⟨lx1ba, lx1bb, lx1bc, lx1bd⟩ := lts1 x1b.lt
  have cx1ca : w3.cell? ⟨w.heap.size + 1 + 1, 0, none⟩ = some (.bool false) := x1c.cell 0
  have fx1ca : w3.frozen? ⟨w.heap.size + 1 + 1, 0, none⟩ = false := x1c.frozen 0
  have cx1cb : w3.cell? ⟨w.heap.size + 1 + 1, 1, none⟩ = some (.slice none 0 0) := x1c.cell 1
  have fx1cb : w3.frozen? ⟨w.heap.size + 1 + 1, 1, none⟩ = false := x1c.frozen 1
  have cx1cc : w3.cell? ⟨w.heap.size + 1 + 1, 2, none⟩ = some (.slice none 0 0) := x1c.cell 2
  have fx1cc : w3.frozen? ⟨w.heap.size + 1 + 1, 2, none⟩ = false := x1c.frozen 2
  obtain ⟨lx1ca, lx1cb, lx1cc, lx1cd⟩ := lts2 x1c.lt
  obtain ⟨cx2aa, cx2ab⟩ := x2a.c2
  obtain ⟨lx2aa, lx2ab, lx2ac, lx2ad⟩ := lts0 x2a.lt
  obtain ⟨cx2ba, cx2bb⟩ := x2b.c2
  obtain ⟨lx2ba, lx2bb, lx2bc, lx2bd⟩ := lts1 x2b.lt
  obtain ⟨cx3aa, cx3ab⟩ := x3a.c2
  obtain ⟨lx3aa, lx3ab, lx3ac, lx3ad⟩ := lts0 x3a.lt
  obtain ⟨cx3ba, cx3bb⟩ := x3b.c2
  obtain ⟨lx3ba, lx3bb, lx3bc, lx3bd⟩ := lts1 x3b.lt
  have nfx1_0_0 : ¬ w.heap.size = w.heap.size + 1 + 1 := by omega
  have nex1_0_0 : ¬ w.heap.size = w.heap.size + 2 := by omega
  have nfx1_1_0 : ¬ w.heap.size + 1 = w.heap.size + 1 + 1 := by omega
  have nex1_1_0 : ¬ w.heap.size = w.heap.size + 1 := by omega
  have nfx2_0_0 : ¬ w1.heap.size = w.heap.size + 1 + 1 := by omega
  have nex2_0_0 : ¬ w1.heap.size = w.heap.size + 2 := by omega
  have nfx2_1_0 : ¬ w1.heap.size + 1 = w.heap.size + 1 + 1 := by omega
  have nex2_1_0 : ¬ w1.heap.size = w.heap.size + 1 := by omega
  have nfx3_0_0 : ¬ w2.heap.size = w.heap.size + 1 + 1 := by omega
  have nex3_0_0 : ¬ w2.heap.size = w.heap.size + 2 := by omega
  have nfx3_1_0 : ¬ w2.heap.size + 1 = w.heap.size + 1 + 1 := by omega
  have nex3_1_0 : ¬ w2.heap.size = w.heap.size + 1 := by omega
  go_region_held3 (fun w' => SeesX w3.heap.size (w.heap.size + 1 + 1) w3 w') (first | with_reducible exact SeesX.of (Nat.le_refl _) (by assumption) | with_reducible exact SeesX.of (Nat.le_refl _) (brefl _).drew | with_reducible exact (SeesX.set (SeesX.set (SeesX.set (SeesX.of (Nat.le_refl _) (by assumption))))) | with_reducible exact (SeesX.set (SeesX.set (SeesX.of (Nat.le_refl _) (by assumption)))) | with_reducible exact (SeesX.set (SeesX.of (Nat.le_refl _) (by assumption))) | exact SeesX.of (Nat.le_refl _) (below_drewN (brefl _) 1) | exact SeesX.of (Nat.le_refl _) (below_drewN (by assumption) _))
    (first
      | (go_at_call 82; (with_reducible refine (r01_mul _ b1 A1 n1 c1 ((q).num) ((k)) ?_ b2 A2 n2 c2 ((q').num) ((k')) ?_ ?_).mono ?_); (exact h1.iz); (exact h2.iz); (first | omega | decide | assumption); rintro e w4 ⟨b4, A4, n4, c4, rfl, h4, hb4⟩; replace hb4 := bnext (below_drewN (brefl _) 1) hb4; have q4 : Below w3.heap.size w3 w4 := bnext (brefl w3) hb4; replace h := h.belw hb4; replace h' := h'.belw hb4; replace h1 := h1.belw hb4; replace h'1 := h'1.belw hb4; replace h2 := h2.belw hb4; replace h'2 := h'2.belw hb4)
      | (go_at_call 82; (with_reducible refine (r01_mul _ b'1 A'1 n'1 c'1 (((q).den : Int)) ((k)) ?_ b'2 A'2 n'2 c'2 (((q').den : Int)) ((k')) ?_ ?_).mono ?_); (exact h'1.iz); (exact h'2.iz); (first | omega | decide | assumption); rintro e w5 ⟨b5, A5, n5, c5, rfl, h5, hb5⟩; have q5 : Below w3.heap.size w3 w5 := bnext q4 hb5; replace h := h.belw hb5; replace h' := h'.belw hb5; replace h1 := h1.belw hb5; replace h'1 := h'1.belw hb5; replace h2 := h2.belw hb5; replace h'2 := h'2.belw hb5; replace h4 := h4.belw hb5)
      | (go_at_call 83; (with_reducible refine (g_form _ b4 A4 n4 c4 (((q).num) * ((q').num)) (((k)) + ((k'))) ?_ b5 A5 n5 c5 ((((q).den : Int)) * (((q').den : Int))) (((k)) + ((k'))) ?_ (q * q') (k + k') ?_ ?_ ?_ ?_).mono ?_); (exact h4.iz); (exact h5.iz); (exact Int.mul_ne_zero (den_ne _) (den_ne _)); (exact (mul_q _ _).symm); (exact Sz_mul HS.out HS'.out); (omega); rintro e w6 ⟨b6, A6, n6, c6, A'6, n'6, c'6, rfl, h6, hb6⟩; have q6 : Below w3.heap.size w3 w6 := bnext q5 hb6; replace h := h.belw hb6; replace h' := h'.belw hb6; replace h1 := h1.belw hb6; replace h'1 := h'1.belw hb6; replace h2 := h2.belw hb6; replace h'2 := h'2.belw hb6; replace h4 := h4.belw hb6; replace h5 := h5.belw hb6; have x1c := x1c.b q6; obtain ⟨cx1ca, cx1cb, cx1cc⟩ := x1c.c3; obtain ⟨fx1ca, fx1cb, fx1cc⟩ := x1c.f3))
  have bw6 := bw3.trans (q6.mono bw3.size)
  clear lx1aa lx1ab lx1ac lx1ad lx1ba lx1bb lx1bc lx1bd cx1ca fx1ca cx1cb fx1cb cx1cc fx1cc lx1ca lx1cb lx1cc lx1cd cx2aa cx2ab lx2aa lx2ab lx2ac lx2ad cx2ba cx2bb lx2ba lx2bb lx2bc lx2bd cx3aa cx3ab lx3aa lx3ab lx3ac lx3ad cx3ba cx3bb lx3ba lx3bb lx3bc lx3bd
  replace x1a := x1a.b q6
  replace x1b := x1b.b q6
  replace x2a := x2a.b q6
  replace x2b := x2b.b q6
  replace x3a := x3a.b q6
  replace x3b := x3b.b q6
  have lw6 := q6.size
  obtain ⟨cx1ca, cx1cb, cx1cc⟩ := x1c.c3
  obtain ⟨fx1ca, fx1cb, fx1cc⟩ := x1c.f3
  go_wp2_with fail
  refine bodyPost_ret (v := .agg #[.bool b6, .slice A6 n6 c6, .slice A'6 n'6 c'6]) (by simp [results, Tryz.results79, go_sem, *] <;> first | rfl | exact ⟨rfl, rfl⟩) rfl ?_
  exact ⟨b6, A6, n6, c6, A'6, n'6, c'6, rfl, h6.keep ((((Kp.refl w6).sb (w.heap.size + 1 + 1) 0 x1c.box (by decide) (.bool b6)).sb (w.heap.size + 1 + 1) 1 (x1c.box.set ⟨w.heap.size + 1 + 1, 0, none⟩ (.bool b6)) (by decide) (.slice A6 n6 c6)).sb (w.heap.size + 1 + 1) 2 ((x1c.box.set ⟨w.heap.size + 1 + 1, 0, none⟩ (.bool b6)).set ⟨w.heap.size + 1 + 1, 1, none⟩ (.slice A6 n6 c6)) (by decide) (.slice A'6 n'6 c'6)), (((bw6.sc (w.heap.size + 1 + 1) 0 (by omega) (.bool b6)).sc (w.heap.size + 1 + 1) 1 (by omega) (.slice A6 n6 c6)).sc (w.heap.size + 1 + 1) 2 (by omega) (.slice A'6 n'6 c'6))⟩
theorem g_div (w : World) (b : Bool) (A : Option Addr) (n c : Nat) (D : Option Addr) (m e : Nat) (q : Rat) (k : Nat) (h : QZ w b A n c D m e q k) (b' : Bool) (A' : Option Addr) (n' c' : Nat) (D' : Option Addr) (m' e' : Nat) (q' : Rat) (k' : Nat) (h' : QZ w b' A' n' c' D' m' e' q' k') (h0 : 0 < k) (hk : k ≤ 40000000) (h0' : 0 < k') (hk' : k' ≤ 40000000) (hne : q' ≠ 0) :
    Calls Tryz.prog 42 #[.agg #[.bool b, .slice A n c, .slice D m e], .agg #[.bool b', .slice A' n' c', .slice D' m' e']] w (RetFe w (.int .i64 0) (q / q') (k + k')) := by
  have HS := Lib.hid (h.sz h0)
  have HS' := Lib.hid (h'.sz h0')
  have HN := Lib.hid hne
  clear hne
  go_enter Tryz.func42, Tryz.ntmps42
  go_wp2_with fail
  (with_reducible refine (g_parts _ b A n c D m e (q) (k) ?_ ?_ ?_).mono ?_); (exact (h.belw ((((Below.refl _ _).alloc (Nat.le_refl _) _).alloc (by simp) _).alloc (by simp <;> omega) _))); (first | omega | decide | assumption); (first | omega | decide | assumption); rintro e w1 ⟨b1, A1, n1, c1, b'1, A'1, n'1, c'1, rfl, h1, h'1, hb1⟩
  have q1 := ((((Below.refl _ _).alloc (Nat.le_refl _) _).alloc (by simp) _).alloc (by simp <;> omega) _).trans (hb1.mono (by simp <;> omega))
  replace h := h.belw q1
  replace h' := h'.belw q1
  have x1a : Blk w1 w.heap.size 39 #[.bool b, .slice A n c, .slice D m e] := (((blkAt _ _ _ (by simp)).alloc _).alloc _).below hb1 (by simp <;> omega)
  have x1b := ((blkAt _ _ _ (g := w.heap.size + 1) (by simp)).alloc _).below hb1 (by simp <;> omega)
  have x1c := (blkAt _ _ _ (g := w.heap.size + 1 + 1) (by simp)).below hb1 (by simp)
  have bw1 := (brefl w).trans (q1.mono (brefl w).size)
  have lw1 : w.heap.size + 3 ≤ w1.heap.size := by have := hb1.size; simp at this; omega
  clear q1
  obtain ⟨cx1ba, cx1bb, cx1bc⟩ := x1b.c3
  obtain ⟨lx1ba, lx1bb, lx1bc, lx1bd⟩ := lts1 x1b.lt
  go_wp2_with fail
  (with_reducible refine (g_parts _ b' A' n' c' D' m' e' (q') (k') ?_ ?_ ?_).mono ?_); (exact (h'.belw (((Below.refl _ _).alloc (Nat.le_refl _) _).alloc (by simp) _))); (first | omega | decide | assumption); (first | omega | decide | assumption); rintro e w2 ⟨b2, A2, n2, c2, b'2, A'2, n'2, c'2, rfl, h2, h'2, hb2⟩
  clear cx1ba cx1bb cx1bc lx1ba lx1bb lx1bc lx1bd
  have q2 := (((Below.refl _ _).alloc (Nat.le_refl _) _).alloc (by simp) _).trans (hb2.mono (by simp <;> omega))
  replace h := h.belw q2
  replace h' := h'.belw q2
  replace h1 := h1.belw q2
  replace h'1 := h'1.belw q2
  replace x1a := x1a.b q2
  replace x1b := x1b.b q2
  replace x1c := x1c.b q2
  have x2a : Blk w2 w1.heap.size 67 #[.bool b1, .slice A1 n1 c1] := ((blkAt _ _ _ (by simp)).alloc _).below hb2 (by simp <;> omega)
  have x2b := (blkAt _ _ _ (g := w1.heap.size + 1) (by simp)).below hb2 (by simp)
  have bw2 := bw1.trans (q2.mono bw1.size)
  have lw2 : w1.heap.size + 2 ≤ w2.heap.size := by have := hb2.size; simp at this; omega
  clear q2 bw1
  go_wp2_with fail
  have p3 := (((Kp.refl w2).alloc (.cells #[.bool b2, .slice A2 n2 c2] 67)).alloc (.cells #[.bool b'2, .slice A'2 n'2 c'2] 67))
  have bw3 := ((bw2.alloc (by first | omega | (simp <;> omega)) (.cells #[.bool b2, .slice A2 n2 c2] 67)).alloc (by first | omega | (simp <;> omega)) (.cells #[.bool b'2, .slice A'2 n'2 c'2] 67))
  have x3a : Blk ((w2.alloc (.cells #[.bool b2, .slice A2 n2 c2] 67)).alloc (.cells #[.bool b'2, .slice A'2 n'2 c'2] 67)) w2.heap.size 67 #[.bool b2, .slice A2 n2 c2] := ((blkAt _ _ _ (by simp)).alloc (.cells #[.bool b'2, .slice A'2 n'2 c'2] 67))
  have x3b : Blk ((w2.alloc (.cells #[.bool b2, .slice A2 n2 c2] 67)).alloc (.cells #[.bool b'2, .slice A'2 n'2 c'2] 67)) (w2.heap.size + 1) 67 #[.bool b'2, .slice A'2 n'2 c'2] := (blkAt _ _ _ (by simp))
  replace x1a := ((x1a.alloc (.cells #[.bool b2, .slice A2 n2 c2] 67)).alloc (.cells #[.bool b'2, .slice A'2 n'2 c'2] 67))
  replace x1b := ((x1b.alloc (.cells #[.bool b2, .slice A2 n2 c2] 67)).alloc (.cells #[.bool b'2, .slice A'2 n'2 c'2] 67))
  replace x1c := ((x1c.alloc (.cells #[.bool b2, .slice A2 n2 c2] 67)).alloc (.cells #[.bool b'2, .slice A'2 n'2 c'2] 67))
  replace x2a := ((x2a.alloc (.cells #[.bool b2, .slice A2 n2 c2] 67)).alloc (.cells #[.bool b'2, .slice A'2 n'2 c'2] 67))
  replace x2b := ((x2b.alloc (.cells #[.bool b2, .slice A2 n2 c2] 67)).alloc (.cells #[.bool b'2, .slice A'2 n'2 c'2] 67))
  have lw3 : w2.heap.size + 2 ≤ ((w2.alloc (.cells #[.bool b2, .slice A2 n2 c2] 67)).alloc (.cells #[.bool b'2, .slice A'2 n'2 c'2] 67)).heap.size := by simp
  generalize hE3 : ((w2.alloc (.cells #[.bool b2, .slice A2 n2 c2] 67)).alloc (.cells #[.bool b'2, .slice A'2 n'2 c'2] 67)) = w3 at p3 bw3 lw3 x3a x3b x1a x1b x1c x2a x2b ⊢
  clear hE3
  replace h := h.keep p3
  replace h' := h'.keep p3
  replace h1 := h1.keep p3
  replace h'1 := h'1.keep p3
  replace h2 := h2.keep p3
  replace h'2 := h'2.keep p3
  clear bw2
  obtain ⟨lx1aa, lx1ab, lx1ac, lx1ad⟩ := lts0 x1a.lt
  obtain ⟨lx1ba, lx1bb, lx1bc, lx1bd⟩ := lts1 x1b.lt
  have cx1ca : w3.cell? ⟨w.heap.size + 1 + 1, 0, none⟩ = some (.bool false) := x1c.cell 0
  have fx1ca : w3.frozen? ⟨w.heap.size + 1 + 1, 0, none⟩ = false := x1c.frozen 0
  have cx1cb : w3.cell? ⟨w.heap.size + 1 + 1, 1, none⟩ = some (.slice none 0 0) := x1c.cell 1
  have fx1cb : w3.frozen? ⟨w.heap.size + 1 + 1, 1, none⟩ = false := x1c.frozen 1
  have cx1cc : w3.cell? ⟨w.heap.size + 1 + 1, 2, none⟩ = some (.slice none 0 0) := x1c.cell 2
  have fx1cc : w3.frozen? ⟨w.heap.size + 1 + 1, 2, none⟩ = false := x1c.frozen 2
  obtain ⟨lx1ca, lx1cb, lx1cc, lx1cd⟩ := lts2 x1c.lt
  obtain ⟨cx2aa, cx2ab⟩ := x2a.c2
  obtain ⟨lx2aa, lx2ab, lx2ac, lx2ad⟩ := lts0 x2a.lt
  obtain ⟨cx2ba, cx2bb⟩ := x2b.c2
  obtain ⟨lx2ba, lx2bb, lx2bc, lx2bd⟩ := lts1 x2b.lt
  obtain ⟨cx3aa, cx3ab⟩ := x3a.c2
  obtain ⟨lx3aa, lx3ab, lx3ac, lx3ad⟩ := lts0 x3a.lt
  obtain ⟨cx3ba, cx3bb⟩ := x3b.c2
  obtain ⟨lx3ba, lx3bb, lx3bc, lx3bd⟩ := lts1 x3b.lt
  have nfx1_0_0 : ¬ w.heap.size = w.heap.size + 1 + 1 := by omega
  have nex1_0_0 : ¬ w.heap.size = w.heap.size + 2 := by omega
  have nfx1_1_0 : ¬ w.heap.size + 1 = w.heap.size + 1 + 1 := by omega
  have nex1_1_0 : ¬ w.heap.size = w.heap.size + 1 := by omega
  have nfx2_0_0 : ¬ w1.heap.size = w.heap.size + 1 + 1 := by omega
  have nex2_0_0 : ¬ w1.heap.size = w.heap.size + 2 := by omega
  have nfx2_1_0 : ¬ w1.heap.size + 1 = w.heap.size + 1 + 1 := by omega
  have nex2_1_0 : ¬ w1.heap.size = w.heap.size + 1 := by omega
  have nfx3_0_0 : ¬ w2.heap.size = w.heap.size + 1 + 1 := by omega
  have nex3_0_0 : ¬ w2.heap.size = w.heap.size + 2 := by omega
  have nfx3_1_0 : ¬ w2.heap.size + 1 = w.heap.size + 1 + 1 := by omega
  have nex3_1_0 : ¬ w2.heap.size = w.heap.size + 1 := by omega
  go_region_held3 (fun w' => SeesX w3.heap.size (w.heap.size + 1 + 1) w3 w') (first | with_reducible exact SeesX.of (Nat.le_refl _) (by assumption) | with_reducible exact SeesX.of (Nat.le_refl _) (brefl _).drew | with_reducible exact (SeesX.set (SeesX.set (SeesX.set (SeesX.of (Nat.le_refl _) (by assumption))))) | with_reducible exact (SeesX.set (SeesX.set (SeesX.of (Nat.le_refl _) (by assumption)))) | with_reducible exact (SeesX.set (SeesX.of (Nat.le_refl _) (by assumption))) | exact SeesX.of (Nat.le_refl _) (below_drewN (brefl _) 1) | exact SeesX.of (Nat.le_refl _) (below_drewN (by assumption) _))
    (first
      | (go_at_call 82; (with_reducible refine (r01_mul _ b1 A1 n1 c1 ((q).num) ((k)) ?_ b'2 A'2 n'2 c'2 (((q').den : Int)) ((k')) ?_ ?_).mono ?_); (exact h1.iz); (exact h'2.iz); (first | omega | decide | assumption); rintro e w4 ⟨b4, A4, n4, c4, rfl, h4, hb4⟩; replace hb4 := bnext (below_drewN (brefl _) 1) hb4; have q4 : Below w3.heap.size w3 w4 := bnext (brefl w3) hb4; replace h := h.belw hb4; replace h' := h'.belw hb4; replace h1 := h1.belw hb4; replace h'1 := h'1.belw hb4; replace h2 := h2.belw hb4; replace h'2 := h'2.belw hb4)
      | (go_at_call 82; (with_reducible refine (r01_mul _ b'1 A'1 n'1 c'1 (((q).den : Int)) ((k)) ?_ b2 A2 n2 c2 ((q').num) ((k')) ?_ ?_).mono ?_); (exact h'1.iz); (exact h2.iz); (first | omega | decide | assumption); rintro e w5 ⟨b5, A5, n5, c5, rfl, h5, hb5⟩; have q5 : Below w3.heap.size w3 w5 := bnext q4 hb5; replace h := h.belw hb5; replace h' := h'.belw hb5; replace h1 := h1.belw hb5; replace h'1 := h'1.belw hb5; replace h2 := h2.belw hb5; replace h'2 := h'2.belw hb5; replace h4 := h4.belw hb5)
      | (go_at_call 50; (with_reducible refine (g_from _ b4 A4 n4 c4 (((q).num) * (((q').den : Int))) (((k)) + ((k'))) ?_ b5 A5 n5 c5 ((((q).den : Int)) * ((q').num)) (((k)) + ((k'))) ?_ (q / q') (k + k') ?_ ?_ ?_ ?_).mono ?_); (exact h4.iz); (exact h5.iz); (exact Int.mul_ne_zero (den_ne _) (fun x => HN.out (Rat.num_eq_zero.1 x))); (exact (div_q _ _ HN.out).symm); (exact Sz_div HS.out HS'.out HN.out); (omega); rintro e w6 ⟨b6, A6, n6, c6, A'6, n'6, c'6, rfl, h6, hb6⟩; have q6 : Below w3.heap.size w3 w6 := bnext q5 hb6; replace h := h.belw hb6; replace h' := h'.belw hb6; replace h1 := h1.belw hb6; replace h'1 := h'1.belw hb6; replace h2 := h2.belw hb6; replace h'2 := h'2.belw hb6; replace h4 := h4.belw hb6; replace h5 := h5.belw hb6; have x1c := x1c.b q6; obtain ⟨cx1ca, cx1cb, cx1cc⟩ := x1c.c3; obtain ⟨fx1ca, fx1cb, fx1cc⟩ := x1c.f3))
  have bw6 := bw3.trans (q6.mono bw3.size)
  clear lx1aa lx1ab lx1ac lx1ad lx1ba lx1bb lx1bc lx1bd cx1ca fx1ca cx1cb fx1cb cx1cc fx1cc lx1ca lx1cb lx1cc lx1cd cx2aa cx2ab lx2aa lx2ab lx2ac lx2ad cx2ba cx2bb lx2ba lx2bb lx2bc lx2bd cx3aa cx3ab lx3aa lx3ab lx3ac lx3ad cx3ba cx3bb lx3ba lx3bb lx3bc lx3bd
  replace x1a := x1a.b q6
  replace x1b := x1b.b q6
  replace x2a := x2a.b q6
  replace x2b := x2b.b q6
  replace x3a := x3a.b q6
  replace x3b := x3b.b q6
  have lw6 := q6.size
  obtain ⟨cx1ca, cx1cb, cx1cc⟩ := x1c.c3
  obtain ⟨fx1ca, fx1cb, fx1cc⟩ := x1c.f3
  go_wp2_with fail
  refine bodyPost_ret (v := .tuple #[.agg #[.bool b6, .slice A6 n6 c6, .slice A'6 n'6 c'6], .int .i64 0]) (by simp [results, Tryz.results42, go_sem, *] <;> first | rfl | exact ⟨rfl, rfl⟩) rfl ?_
  exact ⟨b6, A6, n6, c6, A'6, n'6, c'6, rfl, h6.keep ((((Kp.refl w6).sb (w.heap.size + 1 + 1) 0 x1c.box (by decide) (.bool b6)).sb (w.heap.size + 1 + 1) 1 (x1c.box.set ⟨w.heap.size + 1 + 1, 0, none⟩ (.bool b6)) (by decide) (.slice A6 n6 c6)).sb (w.heap.size + 1 + 1) 2 ((x1c.box.set ⟨w.heap.size + 1 + 1, 0, none⟩ (.bool b6)).set ⟨w.heap.size + 1 + 1, 1, none⟩ (.slice A6 n6 c6)) (by decide) (.slice A'6 n'6 c'6)), (((bw6.sc (w.heap.size + 1 + 1) 0 (by omega) (.bool b6)).sc (w.heap.size + 1 + 1) 1 (by omega) (.slice A6 n6 c6)).sc (w.heap.size + 1 + 1) 2 (by omega) (.slice A'6 n'6 c'6))⟩
end Go.Proofs.YtfbigmdpdcpkfaaGreatDoor

namespace Go.Proofs.YtfbigmdpdcpkfaaGreatDoor
open Go Go.RowKit Bn
attribute [local go_sem ↓] Go.wp_at_zero Go.wp_at_succ
theorem g_sign_v (w : World) (b : Bool) (A : Option Addr) (n c : Nat) (D : Option Addr) (m e : Nat) (q : Rat) (k : Nat) (h : QZ w b A n c D m e q k) (s : Int) (hs : q.num.sign = s) (h0 : 0 < k) (hk : k ≤ 40000000) : Calls Tryz.prog 41 #[.agg #[.bool b, .slice A n c, .slice D m e]] w (RetV w (.int .i64 s)) := by subst hs; exact g_sign w b A n c D m e q k h h0 hk
end Go.Proofs.YtfbigmdpdcpkfaaGreatDoor

namespace Go.Proofs.YtfbigmdpdcpkfaaGreatDoor
open Go Go.RowKit Bn

theorem b_num_nil (w : World) : Calls Tryz.prog 13 #[.nilIface] w (RetV w (.int .i64 0)) := by
 go_enter Tryz.func13, Tryz.ntmps13
 go_wp2
 go_ret
 exact ⟨rfl, brefl w⟩
theorem run_as_err (x : Int) (w : World) : (Instr.typeAssert (.iface 53 (.int .i64 x)) 25 53 true).run Tryz.prog w = .ok (.tuple #[.int .i64 x, .bool true]) w := by
  simp [Instr.typeAssert, run_underlying Tryz.underlying53]
theorem b_num_err (w : World) (x : Int) : Calls Tryz.prog 13 #[.iface 53 (.int .i64 x)] w (RetV w (.int .i64 x)) := by
 go_enter Tryz.func13, Tryz.ntmps13
 have hr := run_as_err x
 go_wp2
 go_ret
 exact ⟨rfl, brefl w⟩
end Go.Proofs.YtfbigmdpdcpkfaaGreatDoor

namespace Go.Proofs.YtfbigmdpdcpkfaaGreatDoor
open Go Go.RowKit Bn
attribute [local go_sem ↓] Go.wp_at_zero Go.wp_at_succ
theorem b_num_v (w : World) (x : Int) : Calls Tryz.prog 13 #[errV x] w (RetV w (.int .i64 x)) := by
  unfold errV
  split
  · rename_i h; subst h; exact b_num_nil w
  · exact b_num_err w x
end Go.Proofs.YtfbigmdpdcpkfaaGreatDoor

namespace Go.Proofs.YtfbigmdpdcpkfaaGreatDoor
open Go Go.RowKit Bn
attribute [local go_sem ↓] Go.wp_at_zero Go.wp_at_succ
theorem r_numberEnd (w : World) (s : List UInt8) (x : Int) (i : Nat) (hx : x = ((i : Nat) : Int)) (hi : i ≤ s.length) (hs : s.length < 4611686018427387904) (y : Int) (hy : ((i + numN (s.drop i) : Nat) : Int) = y) : Calls Tryz.prog 37 #[strV s, .int .i64 x] w (RetV w (.int .i64 y)) := by
 obtain ⟨v, hv⟩ : ∃ v, numN (s.drop i) = v := ⟨_, rfl⟩
 rw [hv] at hy
 subst hx
 obtain ⟨m, k, hm, hk, hc⟩ := num_cases hv
 clear hv
 rcases hm with ⟨rfl, ham⟩ | ⟨rfl, ham⟩
 ·have h0d : i < s.length := atB_in ham (by decide)
  obtain ⟨d0, hd0⟩ : ∃ d0, atB s i = d0 := ⟨_, rfl⟩
  rw [hd0] at ham
  have e45 : (((d0.toNat : Nat) : Int) == 45) = true := (byte_eq d0 45).trans (by simp [ham])
  have hwi : IntKind.i64.wrap ((i : Int) + 1) = (i : Int) + 1 := IntWalk.i64_in _ ⟨by omega, by omega⟩
  clear ham
  rcases hc with ⟨hk0, hv0⟩ | ⟨hkp, d, hd, hc⟩
  ·subst hv0
   subst hk0
   have hk7 : ((((i : Int) + 1) : Int) == ((i : Int) + 1 : Int)) = true := by simp
   go_enter Tryz.func37, Tryz.ntmps37
   go_wp2_with fail
   (with_reducible refine (r_at_x _ (s) ((i : Int)) (i) (by omega) d0 hd0).mono ?_); rintro e w1 ⟨rfl, q1⟩
   have bw1 := (brefl w).trans (q1.mono (brefl w).size)
   have lw1 := q1.size
   clear q1
   go_wp2_with fail
   (with_reducible refine (r_digitsEnd_x _ (s) (((i : Int) + 1)) (i + 1) (by omega) (by omega) hs ((i : Int) + 1) (by have h9 := hk; omega)).mono ?_); rintro e w2 ⟨rfl, q2⟩
   have bw2 := bw1.trans (q2.mono bw1.size)
   have lw2 := q2.size
   clear q2 bw1
   go_wp2_with fail
   go_ret
   exact retI (by rw [← hy]; omega) bw2
  ·have hle : i + 1 + k ≤ s.length := by have := digN_drop hk hkp; omega
   have hk9 : ((k : Int) == 0) = false := by simp; omega
   have hk8 : ((k : Int) = 0) = False := by simp; omega
   have hk7 : (((i : Int) + 1 + (k : Int) : Int) == ((i : Int) + 1 : Int)) = false := by simp; omega
   rcases hc with ⟨hd1, hd2, hv9⟩ | ⟨hdd, t, ht, hc⟩
   ·have e46 : (((d.toNat : Nat) : Int) == 46) = false := (byte_eq d 46).trans (by simp [hd1])
    have e47 : (((d.toNat : Nat) : Int) == 47) = false := (byte_eq d 47).trans (by simp [hd2])
    clear hd1 hd2
    replace hv9 := hv9.symm
    subst hv9
    have hwe : IntKind.i64.wrap ((i : Int) + 1 + (k : Int)) = (i : Int) + 1 + (k : Int) := IntWalk.i64_in _ ⟨by omega, by omega⟩
    go_enter Tryz.func37, Tryz.ntmps37
    go_wp2_with fail
    (with_reducible refine (r_at_x _ (s) ((i : Int)) (i) (by omega) d0 hd0).mono ?_); rintro e w1 ⟨rfl, q1⟩
    have bw1 := (brefl w).trans (q1.mono (brefl w).size)
    have lw1 := q1.size
    clear q1
    go_wp2_with fail
    (with_reducible refine (r_digitsEnd_x _ (s) (((i : Int) + 1)) (i + 1) (by omega) (by omega) hs ((i : Int) + 1 + (k : Int)) (by have h9 := hk; omega)).mono ?_); rintro e w2 ⟨rfl, q2⟩
    have bw2 := bw1.trans (q2.mono bw1.size)
    have lw2 := q2.size
    clear q2 bw1
    go_wp2_with fail
    (with_reducible refine (r_at_x _ (s) (((i : Int) + 1 + (k : Int))) (i + 1 + k) (by omega) d hd).mono ?_); rintro e w3 ⟨rfl, q3⟩
    have bw3 := bw2.trans (q3.mono bw2.size)
    have lw3 := q3.size
    clear q3 bw2
    go_wp2_with fail
    (with_reducible refine (r_at_x _ (s) (((i : Int) + 1 + (k : Int))) (i + 1 + k) (by omega) d hd).mono ?_); rintro e w4 ⟨rfl, q4⟩
    have bw4 := bw3.trans (q4.mono bw3.size)
    have lw4 := q4.size
    clear q4 bw3
    go_wp2_with fail
    go_ret
    exact retI (by rw [← hy]; omega) bw4
   ·have hl : i + 1 + k < s.length := by rcases hdd with e | e <;> exact atB_in hd (by rw [e]; decide)
    have hwe : IntKind.i64.wrap ((i : Int) + 1 + (k : Int)) = (i : Int) + 1 + (k : Int) := IntWalk.i64_in _ ⟨by omega, by omega⟩
    have hwe1 : IntKind.i64.wrap ((i : Int) + 1 + (k : Int) + 1) = (i : Int) + 1 + (k : Int) + 1 := IntWalk.i64_in _ ⟨by omega, by omega⟩
    rcases hdd with hd46 | hd47
    ·have e46 : (((d.toNat : Nat) : Int) == 46) = true := (byte_eq d 46).trans (by simp [hd46])
     clear hd46
     rcases hc with ⟨ht0, hv9⟩ | ⟨htp, hv9⟩
     ·replace hv9 := hv9.symm
      subst hv9
      subst ht0
      go_enter Tryz.func37, Tryz.ntmps37
      go_wp2_with fail
      (with_reducible refine (r_at_x _ (s) ((i : Int)) (i) (by omega) d0 hd0).mono ?_); rintro e w1 ⟨rfl, q1⟩
      have bw1 := (brefl w).trans (q1.mono (brefl w).size)
      have lw1 := q1.size
      clear q1
      go_wp2_with fail
      (with_reducible refine (r_digitsEnd_x _ (s) (((i : Int) + 1)) (i + 1) (by omega) (by omega) hs ((i : Int) + 1 + (k : Int)) (by have h9 := hk; omega)).mono ?_); rintro e w2 ⟨rfl, q2⟩
      have bw2 := bw1.trans (q2.mono bw1.size)
      have lw2 := q2.size
      clear q2 bw1
      go_wp2_with fail
      (with_reducible refine (r_at_x _ (s) (((i : Int) + 1 + (k : Int))) (i + 1 + k) (by omega) d hd).mono ?_); rintro e w3 ⟨rfl, q3⟩
      have bw3 := bw2.trans (q3.mono bw2.size)
      have lw3 := q3.size
      clear q3 bw2
      go_wp2_with fail
      (with_reducible refine (r_digitsEnd_x _ (s) (((i : Int) + 1 + (k : Int) + 1)) (i + 1 + k + 1) (by omega) (by omega) hs ((i : Int) + 1 + (k : Int) + 1) (by have h9 := ht; omega)).mono ?_); rintro e w4 ⟨rfl, q4⟩
      have bw4 := bw3.trans (q4.mono bw3.size)
      have lw4 := q4.size
      clear q4 bw3
      go_wp2_with fail
      go_ret
      exact retI (by rw [← hy]; omega) bw4
     ·replace hv9 := hv9.symm
      subst hv9
      have ht9 : ((0 : Int) < (t : Int)) = True := by simp; omega
      have htl : i + 1 + k + 1 + t ≤ s.length := by have := digN_drop ht htp; omega
      have ht8 : ((i : Int) + 1 + (k : Int) + 1 < (i : Int) + 1 + (k : Int) + 1 + (t : Int)) = True := by simp; omega
      go_enter Tryz.func37, Tryz.ntmps37
      go_wp2_with fail
      (with_reducible refine (r_at_x _ (s) ((i : Int)) (i) (by omega) d0 hd0).mono ?_); rintro e w1 ⟨rfl, q1⟩
      have bw1 := (brefl w).trans (q1.mono (brefl w).size)
      have lw1 := q1.size
      clear q1
      go_wp2_with fail
      (with_reducible refine (r_digitsEnd_x _ (s) (((i : Int) + 1)) (i + 1) (by omega) (by omega) hs ((i : Int) + 1 + (k : Int)) (by have h9 := hk; omega)).mono ?_); rintro e w2 ⟨rfl, q2⟩
      have bw2 := bw1.trans (q2.mono bw1.size)
      have lw2 := q2.size
      clear q2 bw1
      go_wp2_with fail
      (with_reducible refine (r_at_x _ (s) (((i : Int) + 1 + (k : Int))) (i + 1 + k) (by omega) d hd).mono ?_); rintro e w3 ⟨rfl, q3⟩
      have bw3 := bw2.trans (q3.mono bw2.size)
      have lw3 := q3.size
      clear q3 bw2
      go_wp2_with fail
      (with_reducible refine (r_digitsEnd_x _ (s) (((i : Int) + 1 + (k : Int) + 1)) (i + 1 + k + 1) (by omega) (by omega) hs ((i : Int) + 1 + (k : Int) + 1 + (t : Int)) (by have h9 := ht; omega)).mono ?_); rintro e w4 ⟨rfl, q4⟩
      have bw4 := bw3.trans (q4.mono bw3.size)
      have lw4 := q4.size
      clear q4 bw3
      go_wp2_with fail
      go_ret
      exact retI (by rw [← hy]; omega) bw4
    ·have e46 : (((d.toNat : Nat) : Int) == 46) = false := (byte_eq d 46).trans (by simp [hd47])
     have e47 : (((d.toNat : Nat) : Int) == 47) = true := (byte_eq d 47).trans (by simp [hd47])
     clear hd47
     rcases hc with ⟨ht0, hv9⟩ | ⟨htp, hv9⟩
     ·replace hv9 := hv9.symm
      subst hv9
      subst ht0
      go_enter Tryz.func37, Tryz.ntmps37
      go_wp2_with fail
      (with_reducible refine (r_at_x _ (s) ((i : Int)) (i) (by omega) d0 hd0).mono ?_); rintro e w1 ⟨rfl, q1⟩
      have bw1 := (brefl w).trans (q1.mono (brefl w).size)
      have lw1 := q1.size
      clear q1
      go_wp2_with fail
      (with_reducible refine (r_digitsEnd_x _ (s) (((i : Int) + 1)) (i + 1) (by omega) (by omega) hs ((i : Int) + 1 + (k : Int)) (by have h9 := hk; omega)).mono ?_); rintro e w2 ⟨rfl, q2⟩
      have bw2 := bw1.trans (q2.mono bw1.size)
      have lw2 := q2.size
      clear q2 bw1
      go_wp2_with fail
      (with_reducible refine (r_at_x _ (s) (((i : Int) + 1 + (k : Int))) (i + 1 + k) (by omega) d hd).mono ?_); rintro e w3 ⟨rfl, q3⟩
      have bw3 := bw2.trans (q3.mono bw2.size)
      have lw3 := q3.size
      clear q3 bw2
      go_wp2_with fail
      (with_reducible refine (r_at_x _ (s) (((i : Int) + 1 + (k : Int))) (i + 1 + k) (by omega) d hd).mono ?_); rintro e w4 ⟨rfl, q4⟩
      have bw4 := bw3.trans (q4.mono bw3.size)
      have lw4 := q4.size
      clear q4 bw3
      go_wp2_with fail
      (with_reducible refine (r_digitsEnd_x _ (s) (((i : Int) + 1 + (k : Int) + 1)) (i + 1 + k + 1) (by omega) (by omega) hs ((i : Int) + 1 + (k : Int) + 1) (by have h9 := ht; omega)).mono ?_); rintro e w5 ⟨rfl, q5⟩
      have bw5 := bw4.trans (q5.mono bw4.size)
      have lw5 := q5.size
      clear q5 bw4
      go_wp2_with fail
      go_ret
      exact retI (by rw [← hy]; omega) bw5
     ·replace hv9 := hv9.symm
      subst hv9
      have ht9 : ((0 : Int) < (t : Int)) = True := by simp; omega
      have htl : i + 1 + k + 1 + t ≤ s.length := by have := digN_drop ht htp; omega
      have ht8 : ((i : Int) + 1 + (k : Int) + 1 < (i : Int) + 1 + (k : Int) + 1 + (t : Int)) = True := by simp; omega
      go_enter Tryz.func37, Tryz.ntmps37
      go_wp2_with fail
      (with_reducible refine (r_at_x _ (s) ((i : Int)) (i) (by omega) d0 hd0).mono ?_); rintro e w1 ⟨rfl, q1⟩
      have bw1 := (brefl w).trans (q1.mono (brefl w).size)
      have lw1 := q1.size
      clear q1
      go_wp2_with fail
      (with_reducible refine (r_digitsEnd_x _ (s) (((i : Int) + 1)) (i + 1) (by omega) (by omega) hs ((i : Int) + 1 + (k : Int)) (by have h9 := hk; omega)).mono ?_); rintro e w2 ⟨rfl, q2⟩
      have bw2 := bw1.trans (q2.mono bw1.size)
      have lw2 := q2.size
      clear q2 bw1
      go_wp2_with fail
      (with_reducible refine (r_at_x _ (s) (((i : Int) + 1 + (k : Int))) (i + 1 + k) (by omega) d hd).mono ?_); rintro e w3 ⟨rfl, q3⟩
      have bw3 := bw2.trans (q3.mono bw2.size)
      have lw3 := q3.size
      clear q3 bw2
      go_wp2_with fail
      (with_reducible refine (r_at_x _ (s) (((i : Int) + 1 + (k : Int))) (i + 1 + k) (by omega) d hd).mono ?_); rintro e w4 ⟨rfl, q4⟩
      have bw4 := bw3.trans (q4.mono bw3.size)
      have lw4 := q4.size
      clear q4 bw3
      go_wp2_with fail
      (with_reducible refine (r_digitsEnd_x _ (s) (((i : Int) + 1 + (k : Int) + 1)) (i + 1 + k + 1) (by omega) (by omega) hs ((i : Int) + 1 + (k : Int) + 1 + (t : Int)) (by have h9 := ht; omega)).mono ?_); rintro e w5 ⟨rfl, q5⟩
      have bw5 := bw4.trans (q5.mono bw4.size)
      have lw5 := q5.size
      clear q5 bw4
      go_wp2_with fail
      go_ret
      exact retI (by rw [← hy]; omega) bw5
 ·simp only [Nat.add_zero] at hk hc
  obtain ⟨d0, hd0⟩ : ∃ d0, atB s i = d0 := ⟨_, rfl⟩
  rw [hd0] at ham
  have e45 : (((d0.toNat : Nat) : Int) == 45) = false := (byte_eq d0 45).trans (by simp [ham])
  clear ham
  rcases hc with ⟨hk0, hv0⟩ | ⟨hkp, d, hd, hc⟩
  ·subst hv0
   subst hk0
   have hk7 : ((((i : Int)) : Int) == ((i : Int) : Int)) = true := by simp
   go_enter Tryz.func37, Tryz.ntmps37
   go_wp2_with fail
   (with_reducible refine (r_at_x _ (s) ((i : Int)) (i) (by omega) d0 hd0).mono ?_); rintro e w1 ⟨rfl, q1⟩
   have bw1 := (brefl w).trans (q1.mono (brefl w).size)
   have lw1 := q1.size
   clear q1
   go_wp2_with fail
   (with_reducible refine (r_digitsEnd_x _ (s) (((i : Int))) (i) (by omega) (by omega) hs ((i : Int)) (by have h9 := hk; omega)).mono ?_); rintro e w2 ⟨rfl, q2⟩
   have bw2 := bw1.trans (q2.mono bw1.size)
   have lw2 := q2.size
   clear q2 bw1
   go_wp2_with fail
   go_ret
   exact retI (by rw [← hy]; omega) bw2
  ·have hle : i + k ≤ s.length := by have := digN_drop hk hkp; omega
   have hk9 : ((k : Int) == 0) = false := by simp; omega
   have hk8 : ((k : Int) = 0) = False := by simp; omega
   have hk7 : (((i : Int) + (k : Int) : Int) == ((i : Int) : Int)) = false := by simp; omega
   rcases hc with ⟨hd1, hd2, hv9⟩ | ⟨hdd, t, ht, hc⟩
   ·have e46 : (((d.toNat : Nat) : Int) == 46) = false := (byte_eq d 46).trans (by simp [hd1])
    have e47 : (((d.toNat : Nat) : Int) == 47) = false := (byte_eq d 47).trans (by simp [hd2])
    clear hd1 hd2
    replace hv9 := hv9.symm
    subst hv9
    have hwe : IntKind.i64.wrap ((i : Int) + (k : Int)) = (i : Int) + (k : Int) := IntWalk.i64_in _ ⟨by omega, by omega⟩
    go_enter Tryz.func37, Tryz.ntmps37
    go_wp2_with fail
    (with_reducible refine (r_at_x _ (s) ((i : Int)) (i) (by omega) d0 hd0).mono ?_); rintro e w1 ⟨rfl, q1⟩
    have bw1 := (brefl w).trans (q1.mono (brefl w).size)
    have lw1 := q1.size
    clear q1
    go_wp2_with fail
    (with_reducible refine (r_digitsEnd_x _ (s) (((i : Int))) (i) (by omega) (by omega) hs ((i : Int) + (k : Int)) (by have h9 := hk; omega)).mono ?_); rintro e w2 ⟨rfl, q2⟩
    have bw2 := bw1.trans (q2.mono bw1.size)
    have lw2 := q2.size
    clear q2 bw1
    go_wp2_with fail
    (with_reducible refine (r_at_x _ (s) (((i : Int) + (k : Int))) (i + k) (by omega) d hd).mono ?_); rintro e w3 ⟨rfl, q3⟩
    have bw3 := bw2.trans (q3.mono bw2.size)
    have lw3 := q3.size
    clear q3 bw2
    go_wp2_with fail
    (with_reducible refine (r_at_x _ (s) (((i : Int) + (k : Int))) (i + k) (by omega) d hd).mono ?_); rintro e w4 ⟨rfl, q4⟩
    have bw4 := bw3.trans (q4.mono bw3.size)
    have lw4 := q4.size
    clear q4 bw3
    go_wp2_with fail
    go_ret
    exact retI (by rw [← hy]; omega) bw4
   ·have hl : i + k < s.length := by rcases hdd with e | e <;> exact atB_in hd (by rw [e]; decide)
    have hwe : IntKind.i64.wrap ((i : Int) + (k : Int)) = (i : Int) + (k : Int) := IntWalk.i64_in _ ⟨by omega, by omega⟩
    have hwe1 : IntKind.i64.wrap ((i : Int) + (k : Int) + 1) = (i : Int) + (k : Int) + 1 := IntWalk.i64_in _ ⟨by omega, by omega⟩
    rcases hdd with hd46 | hd47
    ·have e46 : (((d.toNat : Nat) : Int) == 46) = true := (byte_eq d 46).trans (by simp [hd46])
     clear hd46
     rcases hc with ⟨ht0, hv9⟩ | ⟨htp, hv9⟩
     ·replace hv9 := hv9.symm
      subst hv9
      subst ht0
      go_enter Tryz.func37, Tryz.ntmps37
      go_wp2_with fail
      (with_reducible refine (r_at_x _ (s) ((i : Int)) (i) (by omega) d0 hd0).mono ?_); rintro e w1 ⟨rfl, q1⟩
      have bw1 := (brefl w).trans (q1.mono (brefl w).size)
      have lw1 := q1.size
      clear q1
      go_wp2_with fail
      (with_reducible refine (r_digitsEnd_x _ (s) (((i : Int))) (i) (by omega) (by omega) hs ((i : Int) + (k : Int)) (by have h9 := hk; omega)).mono ?_); rintro e w2 ⟨rfl, q2⟩
      have bw2 := bw1.trans (q2.mono bw1.size)
      have lw2 := q2.size
      clear q2 bw1
      go_wp2_with fail
      (with_reducible refine (r_at_x _ (s) (((i : Int) + (k : Int))) (i + k) (by omega) d hd).mono ?_); rintro e w3 ⟨rfl, q3⟩
      have bw3 := bw2.trans (q3.mono bw2.size)
      have lw3 := q3.size
      clear q3 bw2
      go_wp2_with fail
      (with_reducible refine (r_digitsEnd_x _ (s) (((i : Int) + (k : Int) + 1)) (i + k + 1) (by omega) (by omega) hs ((i : Int) + (k : Int) + 1) (by have h9 := ht; omega)).mono ?_); rintro e w4 ⟨rfl, q4⟩
      have bw4 := bw3.trans (q4.mono bw3.size)
      have lw4 := q4.size
      clear q4 bw3
      go_wp2_with fail
      go_ret
      exact retI (by rw [← hy]; omega) bw4
     ·replace hv9 := hv9.symm
      subst hv9
      have ht9 : ((0 : Int) < (t : Int)) = True := by simp; omega
      have htl : i + k + 1 + t ≤ s.length := by have := digN_drop ht htp; omega
      have ht8 : ((i : Int) + (k : Int) + 1 < (i : Int) + (k : Int) + 1 + (t : Int)) = True := by simp; omega
      go_enter Tryz.func37, Tryz.ntmps37
      go_wp2_with fail
      (with_reducible refine (r_at_x _ (s) ((i : Int)) (i) (by omega) d0 hd0).mono ?_); rintro e w1 ⟨rfl, q1⟩
      have bw1 := (brefl w).trans (q1.mono (brefl w).size)
      have lw1 := q1.size
      clear q1
      go_wp2_with fail
      (with_reducible refine (r_digitsEnd_x _ (s) (((i : Int))) (i) (by omega) (by omega) hs ((i : Int) + (k : Int)) (by have h9 := hk; omega)).mono ?_); rintro e w2 ⟨rfl, q2⟩
      have bw2 := bw1.trans (q2.mono bw1.size)
      have lw2 := q2.size
      clear q2 bw1
      go_wp2_with fail
      (with_reducible refine (r_at_x _ (s) (((i : Int) + (k : Int))) (i + k) (by omega) d hd).mono ?_); rintro e w3 ⟨rfl, q3⟩
      have bw3 := bw2.trans (q3.mono bw2.size)
      have lw3 := q3.size
      clear q3 bw2
      go_wp2_with fail
      (with_reducible refine (r_digitsEnd_x _ (s) (((i : Int) + (k : Int) + 1)) (i + k + 1) (by omega) (by omega) hs ((i : Int) + (k : Int) + 1 + (t : Int)) (by have h9 := ht; omega)).mono ?_); rintro e w4 ⟨rfl, q4⟩
      have bw4 := bw3.trans (q4.mono bw3.size)
      have lw4 := q4.size
      clear q4 bw3
      go_wp2_with fail
      go_ret
      exact retI (by rw [← hy]; omega) bw4
    ·have e46 : (((d.toNat : Nat) : Int) == 46) = false := (byte_eq d 46).trans (by simp [hd47])
     have e47 : (((d.toNat : Nat) : Int) == 47) = true := (byte_eq d 47).trans (by simp [hd47])
     clear hd47
     rcases hc with ⟨ht0, hv9⟩ | ⟨htp, hv9⟩
     ·replace hv9 := hv9.symm
      subst hv9
      subst ht0
      go_enter Tryz.func37, Tryz.ntmps37
      go_wp2_with fail
      (with_reducible refine (r_at_x _ (s) ((i : Int)) (i) (by omega) d0 hd0).mono ?_); rintro e w1 ⟨rfl, q1⟩
      have bw1 := (brefl w).trans (q1.mono (brefl w).size)
      have lw1 := q1.size
      clear q1
      go_wp2_with fail
      (with_reducible refine (r_digitsEnd_x _ (s) (((i : Int))) (i) (by omega) (by omega) hs ((i : Int) + (k : Int)) (by have h9 := hk; omega)).mono ?_); rintro e w2 ⟨rfl, q2⟩
      have bw2 := bw1.trans (q2.mono bw1.size)
      have lw2 := q2.size
      clear q2 bw1
      go_wp2_with fail
      (with_reducible refine (r_at_x _ (s) (((i : Int) + (k : Int))) (i + k) (by omega) d hd).mono ?_); rintro e w3 ⟨rfl, q3⟩
      have bw3 := bw2.trans (q3.mono bw2.size)
      have lw3 := q3.size
      clear q3 bw2
      go_wp2_with fail
      (with_reducible refine (r_at_x _ (s) (((i : Int) + (k : Int))) (i + k) (by omega) d hd).mono ?_); rintro e w4 ⟨rfl, q4⟩
      have bw4 := bw3.trans (q4.mono bw3.size)
      have lw4 := q4.size
      clear q4 bw3
      go_wp2_with fail
      (with_reducible refine (r_digitsEnd_x _ (s) (((i : Int) + (k : Int) + 1)) (i + k + 1) (by omega) (by omega) hs ((i : Int) + (k : Int) + 1) (by have h9 := ht; omega)).mono ?_); rintro e w5 ⟨rfl, q5⟩
      have bw5 := bw4.trans (q5.mono bw4.size)
      have lw5 := q5.size
      clear q5 bw4
      go_wp2_with fail
      go_ret
      exact retI (by rw [← hy]; omega) bw5
     ·replace hv9 := hv9.symm
      subst hv9
      have ht9 : ((0 : Int) < (t : Int)) = True := by simp; omega
      have htl : i + k + 1 + t ≤ s.length := by have := digN_drop ht htp; omega
      have ht8 : ((i : Int) + (k : Int) + 1 < (i : Int) + (k : Int) + 1 + (t : Int)) = True := by simp; omega
      go_enter Tryz.func37, Tryz.ntmps37
      go_wp2_with fail
      (with_reducible refine (r_at_x _ (s) ((i : Int)) (i) (by omega) d0 hd0).mono ?_); rintro e w1 ⟨rfl, q1⟩
      have bw1 := (brefl w).trans (q1.mono (brefl w).size)
      have lw1 := q1.size
      clear q1
      go_wp2_with fail
      (with_reducible refine (r_digitsEnd_x _ (s) (((i : Int))) (i) (by omega) (by omega) hs ((i : Int) + (k : Int)) (by have h9 := hk; omega)).mono ?_); rintro e w2 ⟨rfl, q2⟩
      have bw2 := bw1.trans (q2.mono bw1.size)
      have lw2 := q2.size
      clear q2 bw1
      go_wp2_with fail
      (with_reducible refine (r_at_x _ (s) (((i : Int) + (k : Int))) (i + k) (by omega) d hd).mono ?_); rintro e w3 ⟨rfl, q3⟩
      have bw3 := bw2.trans (q3.mono bw2.size)
      have lw3 := q3.size
      clear q3 bw2
      go_wp2_with fail
      (with_reducible refine (r_at_x _ (s) (((i : Int) + (k : Int))) (i + k) (by omega) d hd).mono ?_); rintro e w4 ⟨rfl, q4⟩
      have bw4 := bw3.trans (q4.mono bw3.size)
      have lw4 := q4.size
      clear q4 bw3
      go_wp2_with fail
      (with_reducible refine (r_digitsEnd_x _ (s) (((i : Int) + (k : Int) + 1)) (i + k + 1) (by omega) (by omega) hs ((i : Int) + (k : Int) + 1 + (t : Int)) (by have h9 := ht; omega)).mono ?_); rintro e w5 ⟨rfl, q5⟩
      have bw5 := bw4.trans (q5.mono bw4.size)
      have lw5 := q5.size
      clear q5 bw4
      go_wp2_with fail
      go_ret
      exact retI (by rw [← hy]; omega) bw5
end Go.Proofs.YtfbigmdpdcpkfaaGreatDoor

namespace Go.Proofs.YtfbigmdpdcpkfaaGreatDoor
open Go Go.RowKit Bn
attribute [local go_sem ↓] Go.wp_at_zero Go.wp_at_succ
def nameOk (s : List UInt8) : Bool := decide (0 < wordN s) && decide (wordN s = s.length) && decide (wordN s ≤ 24)
theorem t_name (w : World) (s : List UInt8) (hs : s.length < 4611686018427387904) (v : Bool) (hv : nameOk s = v) : Calls Tryz.prog 18 #[strV s] w (RetV w (.bool v)) := by
 have hszs := size_v s
 obtain ⟨n, hwn⟩ : ∃ n, wordN s = n := ⟨_, rfl⟩
 have hnl : n ≤ s.length := by rw [← hwn]; exact wordN_le s
 unfold nameOk at hv
 rw [hwn] at hv
 rcases (show n = 0 ∨ (0 < n ∧ n ≠ s.length) ∨ (0 < n ∧ n = s.length ∧ 24 < n) ∨ (0 < n ∧ n = s.length ∧ n ≤ 24) by omega) with h1 | ⟨h1, h2⟩ | ⟨h1, h2, h3⟩ | ⟨h1, h2, h3⟩
 ·have g0 : ((0 : Int) < (n : Int)) = False := eq_false (by omega)
  obtain rfl : v = false := by rw [← hv]; simp; omega
  have g8 : (n == 0) = true := by simp; omega
  clear hv
  go_enter Tryz.func18, Tryz.ntmps18
  go_wp2_with fail
  (with_reducible refine (t_word _ (s) hs n hwn).mono ?_); rintro e w1 ⟨rfl, q1⟩
  have bw1 := (brefl w).trans (q1.mono (brefl w).size)
  have lw1 := q1.size
  clear q1
  go_wp2_with fail
  go_ret
  exact retB rfl bw1
 ·have g0 : ((0 : Int) < (n : Int)) = True := eq_true (by omega)
  have g1 : ((n : Int) == (s.length : Int)) = false := by simp; omega
  obtain rfl : v = false := by rw [← hv]; simp; omega
  clear hv h2
  go_enter Tryz.func18, Tryz.ntmps18
  go_wp2_with fail
  (with_reducible refine (t_word _ (s) hs n hwn).mono ?_); rintro e w1 ⟨rfl, q1⟩
  have bw1 := (brefl w).trans (q1.mono (brefl w).size)
  have lw1 := q1.size
  clear q1
  go_wp2_with fail
  go_ret
  exact retB rfl bw1
 ·have g0 : ((0 : Int) < (n : Int)) = True := eq_true (by omega)
  have g1 : ((n : Int) == (s.length : Int)) = true := by simp; omega
  have g2 : ((n : Int) ≤ 24) = False := eq_false (by omega)
  obtain rfl : v = false := by rw [← hv]; simp; omega
  clear hv h2
  go_enter Tryz.func18, Tryz.ntmps18
  go_wp2_with fail
  (with_reducible refine (t_word _ (s) hs n hwn).mono ?_); rintro e w1 ⟨rfl, q1⟩
  have bw1 := (brefl w).trans (q1.mono (brefl w).size)
  have lw1 := q1.size
  clear q1
  go_wp2_with fail
  go_ret
  exact retB rfl bw1
 ·have g0 : ((0 : Int) < (n : Int)) = True := eq_true (by omega)
  have g1 : ((n : Int) == (s.length : Int)) = true := by simp; omega
  have g2 : ((n : Int) ≤ 24) = True := eq_true (by omega)
  obtain rfl : v = true := by rw [← hv, decide_eq_true (show 0 < n by omega), decide_eq_true (show n = s.length by omega), decide_eq_true (show n ≤ 24 by omega)]; rfl
  clear hv h2
  go_enter Tryz.func18, Tryz.ntmps18
  go_wp2_with fail
  (with_reducible refine (t_word _ (s) hs n hwn).mono ?_); rintro e w1 ⟨rfl, q1⟩
  have bw1 := (brefl w).trans (q1.mono (brefl w).size)
  have lw1 := q1.size
  clear q1
  go_wp2_with fail
  go_ret
  exact retB rfl bw1
theorem r_name (w : World) (s : List UInt8) (hs : s.length < 4611686018427387904) (v : Bool) (hv : nameOk s = v) : Calls Tryz.prog 19 #[strV s] w (RetV w (.bool v)) := by
 have hszs := size_v s
 obtain ⟨n, hwn⟩ : ∃ n, wordN s = n := ⟨_, rfl⟩
 have hnl : n ≤ s.length := by rw [← hwn]; exact wordN_le s
 unfold nameOk at hv
 rw [hwn] at hv
 rcases (show s.length = 0 ∨ 24 < s.length ∨ (0 < s.length ∧ s.length ≤ 24 ∧ n ≠ s.length) ∨ (0 < s.length ∧ s.length ≤ 24 ∧ n = s.length) by omega) with h1 | h1 | ⟨h1, h2, h3⟩ | ⟨h1, h2, h3⟩
 ·have g0 : ((0 : Int) < (s.length : Int)) = False := eq_false (by omega)
  obtain rfl : v = false := by rw [← hv]; simp; omega
  clear hv
  go_enter Tryz.func19, Tryz.ntmps19
  go_wp2_with fail
  go_ret
  exact retB (by first | rfl | (simp; omega)) (brefl w)
 ·have g0 : ((0 : Int) < (s.length : Int)) = True := eq_true (by omega)
  have g1 : ((s.length : Int) ≤ 24) = False := eq_false (by omega)
  obtain rfl : v = false := by rw [← hv]; simp; omega
  clear hv
  go_enter Tryz.func19, Tryz.ntmps19
  go_wp2_with fail
  go_ret
  exact retB (by first | rfl | (simp; omega)) (brefl w)
 ·have g0 : ((0 : Int) < (s.length : Int)) = True := eq_true (by omega)
  have g1 : ((s.length : Int) ≤ 24) = True := eq_true (by omega)
  have g2 : ((n : Int) == (s.length : Int)) = false := by simp; omega
  obtain rfl : v = false := by rw [← hv]; simp; omega
  clear hv
  go_enter Tryz.func19, Tryz.ntmps19
  go_wp2_with fail
  (with_reducible refine (r_wordEnd_x _ (s) (0) 0 rfl (Nat.zero_le _) hs (n : Nat) (by rw [List.drop_zero, hwn, Nat.zero_add])).mono ?_); rintro e w1 ⟨rfl, q1⟩
  have bw1 := (brefl w).trans (q1.mono (brefl w).size)
  have lw1 := q1.size
  clear q1
  go_wp2_with fail
  go_ret
  exact retB (by first | rfl | (simp; omega)) bw1
 ·have g0 : ((0 : Int) < (s.length : Int)) = True := eq_true (by omega)
  have g1 : ((s.length : Int) ≤ 24) = True := eq_true (by omega)
  have g2 : ((n : Int) == (s.length : Int)) = true := by simp; omega
  obtain rfl : v = true := by rw [← hv, decide_eq_true (show 0 < n by omega), decide_eq_true (show n = s.length by omega), decide_eq_true (show n ≤ 24 by omega)]; rfl
  clear hv
  go_enter Tryz.func19, Tryz.ntmps19
  go_wp2_with fail
  (with_reducible refine (r_wordEnd_x _ (s) (0) 0 rfl (Nat.zero_le _) hs (n : Nat) (by rw [List.drop_zero, hwn, Nat.zero_add])).mono ?_); rintro e w1 ⟨rfl, q1⟩
  have bw1 := (brefl w).trans (q1.mono (brefl w).size)
  have lw1 := q1.size
  clear q1
  go_wp2_with fail
  go_ret
  exact retB (by first | rfl | (simp; omega)) bw1
end Go.Proofs.YtfbigmdpdcpkfaaGreatDoor

namespace Go.Proofs.YtfbigmdpdcpkfaaGreatDoor
open Go Go.RowKit Bn
theorem tw_full {p : UInt8 → Bool} : ∀ {l : List UInt8}, (l.takeWhile p).length = l.length → l.all p = true := by
  intro l h
  have e : l.takeWhile p = l := (List.takeWhile_sublist p).eq_of_length h
  rw [← e]
  exact tw_all l
theorem digits_front {r : List UInt8} {k : Nat} (h : digN r = k) (hk : 0 < k) : ∃ D d, r = D ++ d ∧ D.length = k ∧ isD D := by
  obtain ⟨d, hd, _⟩ := tw_split isDg r
  refine ⟨r.takeWhile isDg, d, hd, h, ?_, tw_all r⟩
  intro e
  unfold digN at h
  rw [e] at h
  simp at h; omega
theorem num_full {s : List UInt8} (h : numN s = s.length) (h0 : 0 < s.length) : NumForm s := by
  obtain ⟨m, k, hm, hk, hc⟩ := num_cases (s := s) (i := 0) (v := s.length) h
  simp only [Nat.zero_add] at hk hc
  obtain ⟨b, hb⟩ : ∃ b : Bool, s = sg b (s.drop m) := by
    rcases hm with ⟨rfl, ha⟩ | ⟨rfl, _⟩
    · refine ⟨true, ?_⟩
      have := drop_at h0
      rw [ha] at this
      exact this
    · exact ⟨false, rfl⟩
  rcases hc with ⟨_, hv⟩ | ⟨hkp, d, hd, hc⟩
  · omega
  obtain ⟨D, r, hr, hDl, hD⟩ := digits_front hk hkp
  have hml : m + k ≤ s.length := digN_drop hk hkp
  have hrl : r.length = s.length - (m + k) := by
    have := congrArg List.length hr
    rw [List.length_drop, List.length_append] at this
    omega
  rcases hc with ⟨_, _, hv⟩ | ⟨hdd, t, ht, hc⟩
  · have : r = [] := List.eq_nil_of_length_eq_zero (by omega)
    subst this
    rw [List.append_nil] at hr
    exact .whole b D hD (by rw [← hr]; exact hb)
  · have hin : m + k < s.length := by rcases hdd with e | e <;> exact atB_in hd (by rw [e]; decide)
    rcases hc with ⟨_, hv⟩ | ⟨htp, hv⟩
    · omega
    · have e1 : s.drop (m + k) = r := by rw [← List.drop_drop, hr, ← hDl, List.drop_left]
      have e2 := drop_at hin
      rw [e1, hd] at e2
      have hE : isD (s.drop (m + k + 1)) := by
        refine ⟨fun e => ?_, tw_full (p := isDg) ?_⟩
        · rw [e] at ht; simp [digN] at ht; omega
        · show digN (s.drop (m + k + 1)) = _
          rw [ht, List.length_drop]; omega
      rw [e2] at hr
      rw [hr] at hb
      rcases hdd with rfl | rfl
      · exact .dot b D _ hD hE hb
      · exact .quo b D _ hD hE hb
theorem valOut (s : List UInt8) : ∃ x q, ValOut s x q := by
  by_cases h : 60 < s.length
  · exact ⟨4, 0, .large h rfl rfl⟩
  · by_cases hb : s.length = 0 ∨ numN s ≠ s.length
    · exact ⟨2, 0, .bad (by omega) hb rfl rfl⟩
    · have hb1 : numN s = s.length := by
        by_cases e : numN s = s.length
        · exact e
        · exact absurd (.inr e) hb
      have hb2 : 0 < s.length := by
        rcases Nat.eq_zero_or_pos s.length with e | e
        · exact absurd (.inl e) hb
        · exact e
      rcases num_full hb1 hb2 with ⟨m, D, hD, hs⟩ | ⟨m, D, E, hD, hE, hs⟩ | ⟨m, D, E, hD, hE, hs⟩
      · exact ⟨0, _, .whole m D (by omega) hb1 hD hs rfl rfl⟩
      · by_cases h0 : decVal E = 0
        · exact ⟨8, _, .quo0 m D E (by omega) hb1 hD hE hs h0 rfl rfl⟩
        · exact ⟨0, _, .quo m D E (by omega) hb1 hD hE hs h0 rfl rfl⟩
      · exact ⟨0, _, .dot m D E (by omega) hb1 hD hE hs rfl rfl⟩
end Go.Proofs.YtfbigmdpdcpkfaaGreatDoor

/- Values of numbers that are written: plain. -/
namespace Go.Proofs.YtfbigmdpdcpkfaaGreatDoor
open Go Go.RowKit Bn Go.Lib
theorem digN_front {D r : List UInt8} (hD : D.all isDg = true) (hr : ∀ c t, r = c :: t → isDg c = false) : digN (D ++ r) = D.length := by
  induction D with
  | nil =>
    cases r with
    | nil => rfl
    | cons c t => unfold digN; rw [List.nil_append, List.takeWhile_cons, hr c t rfl]; rfl
  | cons x D ih =>
    rw [List.all_cons, Bool.and_eq_true] at hD
    unfold digN at ih ⊢
    rw [List.cons_append, List.takeWhile_cons, hD.1, if_pos rfl, List.length_cons, List.length_cons, ih hD.2]
end Go.Proofs.YtfbigmdpdcpkfaaGreatDoor

/- Walks: tokens: values of the reference. -/
namespace Go.Proofs.YtfbigmdpdcpkfaaGreatDoor
open Go Go.RowKit Bn
attribute [local go_sem ↓] Go.wp_at_zero Go.wp_at_succ
theorem dec_step {s : List UInt8} {i : Nat} (h : i < s.length) : decVal (s.take (i + 1)) = decVal (s.take i) * 10 + dval (atB s i) := by
  have : s.take (i + 1) = s.take i ++ [atB s i] := by rw [List.take_add_one, List.getElem?_eq_getElem h, atB_lt h]; rfl
  rw [this, decVal_snoc]
theorem rat_step (a d : Nat) : (((a : Nat) : Int) : Rat) * ((10 : Int) : Rat) + (((d : Nat) : Int) : Rat) = (((a * 10 + d : Nat) : Int) : Rat) := by
  rw [← Rat.intCast_mul, ← Rat.intCast_add]
  congr 1
theorem dg_at {s : List UInt8} {i : Nat} (h : s.all isDg = true) (hl : i < s.length) : isDg (atB s i) = true := by
  rw [atB_lt hl]
  exact List.all_eq_true.1 h _ (List.getElem_mem _)
theorem r_whole (w : World) (s : List UInt8) (hD : s.all isDg = true) (hl : s.length ≤ 60) : Calls Tryz.prog 39 #[strV s] w (RetF w (((decVal s : Nat) : Int) : Rat) 181) := by
  have hszs := size_v s
  have HD := Lib.hid hD
  clear hD
  go_enter Tryz.func39, Tryz.ntmps39
  go_wp2_with fail
  have p1 := (((Kp.refl w).alloc (.cells #[.bool false, .slice none 0 0, .slice none 0 0] 39)).alloc (.cells #[.bool false, .slice none 0 0, .slice none 0 0] 39))
  have bw1 := (((brefl w).alloc (by first | omega | (simp <;> omega)) (.cells #[.bool false, .slice none 0 0, .slice none 0 0] 39)).alloc (by first | omega | (simp <;> omega)) (.cells #[.bool false, .slice none 0 0, .slice none 0 0] 39))
  have x1a : Blk ((w.alloc (.cells #[.bool false, .slice none 0 0, .slice none 0 0] 39)).alloc (.cells #[.bool false, .slice none 0 0, .slice none 0 0] 39)) w.heap.size 39 #[.bool false, .slice none 0 0, .slice none 0 0] := ((blkAt _ _ _ (by simp)).alloc (.cells #[.bool false, .slice none 0 0, .slice none 0 0] 39))
  have x1b : Blk ((w.alloc (.cells #[.bool false, .slice none 0 0, .slice none 0 0] 39)).alloc (.cells #[.bool false, .slice none 0 0, .slice none 0 0] 39)) (w.heap.size + 1) 39 #[.bool false, .slice none 0 0, .slice none 0 0] := (blkAt _ _ _ (by simp))
  have lw1 : w.heap.size + 2 ≤ ((w.alloc (.cells #[.bool false, .slice none 0 0, .slice none 0 0] 39)).alloc (.cells #[.bool false, .slice none 0 0, .slice none 0 0] 39)).heap.size := by simp
  generalize hE1 : ((w.alloc (.cells #[.bool false, .slice none 0 0, .slice none 0 0] 39)).alloc (.cells #[.bool false, .slice none 0 0, .slice none 0 0] 39)) = w1 at p1 bw1 lw1 x1a x1b ⊢
  clear hE1
  go_loopw [4] (fun iv wr => ∃ (i : Nat) (bo : Bool) (Ao : Option Addr) (no co : Nat) (Do : Option Addr) (mo eo : Nat), iv = .int .i64 (i : Nat) ∧ i ≤ s.length ∧ QV wr bo Ao no co Do mo eo (((decVal (s.take i) : Nat) : Int) : Rat) (1 + 3 * i) ∧ Kp w1 wr ∧ Below w.heap.size w wr ∧ w1.heap.size ≤ wr.heap.size ∧ Blk wr w.heap.size 39 #[.bool false, .slice none 0 0, .slice none 0 0] ∧ Blk wr (w.heap.size + 1) 39 #[.bool bo, .slice Ao no co, .slice Do mo eo]) (fun iv _ => s.length - (intOf iv).toNat)
  case atStart => exact ⟨0, false, none, 0, 0, none, 0, 0, rfl, Nat.zero_le _, QV.zero _ _, Kp.refl _, bw1, Nat.le_refl _, x1a, x1b⟩
  case round =>
    clear x1a
    clear x1b
    obtain ⟨i, bo, Ao, no, co, Do, mo, eo, rfl, hi, ho, hkp, hbw, hlw, x1a, x1b⟩ := hrel
    by_cases hlt : i < s.length
    · have hi1 : ((i : Int) < (s.length : Int)) = True := by simp; omega
      have hlts : i < s.length := hlt
      have hq := rat_step (decVal (s.take i)) (dval (atB s i))
      rw [← dec_step hlt] at hq
      obtain ⟨v, hv⟩ : ∃ v : Rat, (((decVal (s.take i) : Nat) : Int) : Rat) = v := ⟨_, rfl⟩
      rw [hv] at ho hq
      have hdg := dg_at HD.out hlt
      obtain ⟨c0, hc0⟩ : ∃ c, atB s i = c := ⟨_, rfl⟩
      have hget : ∀ h, (⟨s.toArray⟩ : ByteArray)[i]'h = c0 := fun h => by rw [← hc0]; exact (atB_lt hlt).symm
      rw [hc0] at hdg hq
      obtain ⟨d, hd⟩ : ∃ d, dval c0 = d := ⟨_, rfl⟩
      have hd9 : 48 ≤ c0.toNat ∧ c0.toNat ≤ 57 := by unfold isDg at hdg; simpa using hdg
      have hdv : c0.toNat - 48 = d := hd
      rw [hd] at hq
      obtain ⟨cn, hcn⟩ : ∃ cn, c0.toNat = cn := ⟨_, rfl⟩
      rw [hcn] at hd9 hdv
      have hw8 : IntKind.u8.wrap ((cn : Int) - 48) = (d : Int) := by rw [show (cn : Int) - 48 = (d : Int) by omega]; exact IntWalk.u8_in _ ⟨by omega, by omega⟩
      have hd10 : d < 10 := by omega
      have hw64 : IntKind.i64.wrap (d : Int) = (d : Int) := IntWalk.i64_in _ ⟨by omega, by omega⟩
      have HQ := Lib.hid hq
      clear hq hv hc0 hdg hd hd9 hdv hlt
      obtain ⟨cx1ba, cx1bb, cx1bc⟩ := x1b.c3
      obtain ⟨lx1ba, lx1bb, lx1bc, lx1bd⟩ := lts1 x1b.lt
      go_wp2_with fail
      refine wp_region_lin (B := w.heap.size) (fr := fun xf => ⟨List.toArray (strV s :: undef :: .pointer (some ⟨w.heap.size, 0, none⟩) :: .pointer (some ⟨w.heap.size + 1, 0, none⟩) :: .int .i64 (i : Nat) :: .agg #[.bool false, .slice none 0 0, .slice none 0 0] :: .int .i64 (i : Nat) :: strV s :: .int .i64 (s.length : Nat) :: .bool true :: u10 :: u11 :: xf 0 :: xf 1 :: xf 2 :: xf 3 :: xf 4 :: xf 5 :: xf 6 :: xf 7 :: xf 8 :: xf 9 :: undef :: []), []⟩) (R := fun ri => List.getD ((PEq (.agg #[.bool bo, .slice Ao no co, .slice Do mo eo])) :: (VQ (((10 : Int) : Rat)) (1)) :: (VQ ((v) * (((10 : Int) : Rat))) (((1 + 3 * i)) + (1))) :: (PEq (strV s)) :: (PEq (.int .i64 (i : Nat))) :: (PEq (.int .u8 (cn : Nat))) :: (PEq (.int .u8 (d : Nat))) :: (PEq (.int .i64 (d : Nat))) :: (VQ ((((d : Nat) : Int) : Rat)) (1)) :: (VQ (((v) * (((10 : Int) : Rat))) + ((((d : Nat) : Int) : Rat))) ((((1 + 3 * i)) + (1)) + (1) + 1)) :: PAny :: []) ri (fun _ _ => True)) (es := []) (ow := [⟨w.heap.size, 11, 0, 39, #[.bool false, .slice none 0 0, .slice none 0 0], CAny⟩, ⟨w.heap.size + 1, 10, 0, 39, #[.bool bo, .slice Ao no co, .slice Do mo eo], CQ (((v) * (((10 : Int) : Rat))) + ((((d : Nat) : Int) : Rat))) ((((1 + 3 * i)) + (1)) + (1) + 1)⟩]) (x0 := (upd (upd (upd (upd (upd (upd (upd (upd (upd (upd (fun _ => undef) 0 (u12)) 1 (u13)) 2 (u14)) 3 (u15)) 4 (u16)) 5 (u17)) 6 (u18)) 7 (u19)) 8 (u20)) 9 (u21))) (by kernel_rfl)
        (each_of ⟨fun _ _ => rfl, fun _ _ => rfl, fun _ _ => rfl, fun _ _ => rfl, fun _ _ => rfl, fun _ _ => rfl, fun _ _ => rfl, fun _ _ => rfl, fun _ _ => rfl, fun _ _ => rfl, fun _ _ => rfl, trivial⟩) (each_of (acyc_from _ 0 (by kernel_rfl))) (AllStab.get _ ⟨stEq _, stQ _ _, stQ _ _, stEq _, stEq _, stEq _, stEq _, stEq _, stQ _ _, stQ _ _, stAny, trivial⟩)
        (fun _ h => nomatch h) (List.forall_mem_cons.2 ⟨scAny, List.forall_mem_cons.2 ⟨scQ _ _, fun _ h => nomatch h⟩⟩) (fun _ h => nomatch h) hbw.size
        (List.forall_mem_cons.2 ⟨⟨x1a, by show w.heap.size ≤ w.heap.size; omega⟩, List.forall_mem_cons.2 ⟨⟨x1b, by show w.heap.size ≤ w.heap.size + 1; omega⟩, fun _ h => nomatch h⟩⟩) (ownDist (by simp <;> omega))
        (each_of ⟨?_, ?_, ?_, ?_, ?_, ?_, ?_, ?_, ?_, ?_, ?_, trivial⟩) ?_
      · exact .inl ⟨by simp, by simp, fun xf wq hk hbl hd K hK => by
          have y : Blk wq (w.heap.size + 1) 39 #[.bool bo, .slice Ao no co, .slice Do mo eo] := hbl _ (List.Mem.tail _ (List.Mem.head _)) (by simp [Region.binds])
          obtain ⟨hcl0, hcl1, hcl2⟩ := y.c3
          (try dsimp only)
          go_simp
          exact hK.out (.agg #[.bool bo, .slice Ao no co, .slice Do mo eo]) _ rfl (brefl _)⟩
      · exact .inl ⟨by simp, by simp, fun xf wq hk hbl hd K hK => by
          (try dsimp only)
          go_simp
          go_at_call 43
          (with_reducible refine (g_of _ (10) ?_ ?_).mono ?_); (first | omega | decide | assumption); (first | omega | decide | assumption); rintro e wr ⟨b3, A3, n3, c3, A'3, n'3, c'3, rfl, h3, hbr⟩
          exact hK.out _ _ ⟨b3, A3, n3, c3, A'3, n'3, c'3, rfl, h3⟩ hbr⟩
      · exact .inl ⟨by simp, by simp, fun xf wq hk hbl hd K hK => by
          have dq0 : xf 0 = .agg #[.bool bo, .slice Ao no co, .slice Do mo eo] := hd ⟨0, .data⟩ (by simp) rfl
          obtain ⟨b3, A3, n3, c3, A'3, n'3, c'3, dq1, h3⟩ : VQ (((10 : Int) : Rat)) (1) (xf 1) wq := hd ⟨1, .data⟩ (by simp) rfl
          (try dsimp only); (try simp only [dq0, dq1])
          go_simp
          go_at_call 79
          (with_reducible refine (g_mul _ bo Ao no co Do mo eo (v) ((1 + 3 * i)) ?_ b3 A3 n3 c3 A'3 n'3 c'3 (((10 : Int) : Rat)) (1) ?_ ?_ ?_ ?_ ?_).mono ?_); (exact (ho.keep hk).qz); (exact h3.qz); (first | omega | decide | assumption); (first | omega | decide | assumption); (first | omega | decide | assumption); (first | omega | decide | assumption); rintro e wr ⟨b4, A4, n4, c4, A'4, n'4, c'4, rfl, h4, hbr⟩
          have hz := hK.out _ _ ⟨b4, A4, n4, c4, A'4, n'4, c'4, rfl, h4⟩ hbr
          simp only [dq0, dq1] at hz
          exact hz⟩
      · exact .inl ⟨by simp, by simp, fun xf wq hk hbl hd K hK => by
          (try dsimp only)
          go_simp
          exact hK.out (strV s) _ rfl (brefl _)⟩
      · exact .inl ⟨by simp, by simp, fun xf wq hk hbl hd K hK => by
          (try dsimp only)
          go_simp
          exact hK.out (.int .i64 (i : Nat)) _ rfl (brefl _)⟩
      · exact .inl ⟨by simp, by simp, fun xf wq hk hbl hd K hK => by
          have dq3 : xf 3 = strV s := hd ⟨3, .data⟩ (by simp) rfl
          have dq4 : xf 4 = .int .i64 (i : Nat) := hd ⟨4, .data⟩ (by simp) rfl
          (try dsimp only); (try simp only [dq3, dq4])
          go_simp
          have hz := hK.out (.int .u8 (cn : Nat)) _ rfl (brefl _)
          simp only [dq3, dq4] at hz
          exact hz⟩
      · exact .inl ⟨by simp, by simp, fun xf wq hk hbl hd K hK => by
          have dq5 : xf 5 = .int .u8 (cn : Nat) := hd ⟨5, .data⟩ (by simp) rfl
          (try dsimp only); (try simp only [dq5])
          go_simp
          have hz := hK.out (.int .u8 (d : Nat)) _ rfl (brefl _)
          simp only [dq5] at hz
          exact hz⟩
      · exact .inl ⟨by simp, by simp, fun xf wq hk hbl hd K hK => by
          have dq6 : xf 6 = .int .u8 (d : Nat) := hd ⟨6, .data⟩ (by simp) rfl
          (try dsimp only); (try simp only [dq6])
          go_simp
          have hz := hK.out (.int .i64 (d : Nat)) _ rfl (brefl _)
          simp only [dq6] at hz
          exact hz⟩
      · exact .inl ⟨by simp, by simp, fun xf wq hk hbl hd K hK => by
          have dq7 : xf 7 = .int .i64 (d : Nat) := hd ⟨7, .data⟩ (by simp) rfl
          (try dsimp only); (try simp only [dq7])
          go_simp
          go_at_call 43
          (with_reducible refine (g_of _ ((d : Nat)) ?_ ?_).mono ?_); (first | omega | decide | assumption); (first | omega | decide | assumption); rintro e wr ⟨b5, A5, n5, c5, A'5, n'5, c'5, rfl, h5, hbr⟩
          have hz := hK.out _ _ ⟨b5, A5, n5, c5, A'5, n'5, c'5, rfl, h5⟩ hbr
          simp only [dq7] at hz
          exact hz⟩
      · exact .inl ⟨by simp, by simp, fun xf wq hk hbl hd K hK => by
          obtain ⟨b4, A4, n4, c4, A'4, n'4, c'4, dq2, h4⟩ : VQ ((v) * (((10 : Int) : Rat))) (((1 + 3 * i)) + (1)) (xf 2) wq := hd ⟨2, .data⟩ (by simp) rfl
          obtain ⟨b5, A5, n5, c5, A'5, n'5, c'5, dq8, h5⟩ : VQ ((((d : Nat) : Int) : Rat)) (1) (xf 8) wq := hd ⟨8, .data⟩ (by simp) rfl
          (try dsimp only); (try simp only [dq2, dq8])
          go_simp
          go_at_call 78
          (with_reducible refine (g_add _ b4 A4 n4 c4 A'4 n'4 c'4 ((v) * (((10 : Int) : Rat))) (((1 + 3 * i)) + (1)) ?_ b5 A5 n5 c5 A'5 n'5 c'5 ((((d : Nat) : Int) : Rat)) (1) ?_ ?_ ?_ ?_ ?_).mono ?_); (exact h4.qz); (exact h5.qz); (first | omega | decide | assumption); (first | omega | decide | assumption); (first | omega | decide | assumption); (first | omega | decide | assumption); rintro e wr ⟨b6, A6, n6, c6, A'6, n'6, c'6, rfl, h6, hbr⟩
          have hz := hK.out _ _ ⟨b6, A6, n6, c6, A'6, n'6, c'6, rfl, h6⟩ hbr
          simp only [dq2, dq8] at hz
          exact hz⟩
      · exact .inr (.inr (.inr ⟨⟨w.heap.size + 1, 10, 0, 39, #[.bool bo, .slice Ao no co, .slice Do mo eo], CQ (((v) * (((10 : Int) : Rat))) + ((((d : Nat) : Int) : Rat))) ((((1 + 3 * i)) + (1)) + (1) + 1)⟩, by simp, rfl, by simp, by simp, (show KT 39 = false by decide), fun _ _ => True.intro, fun xf wq hblk hd => by
          obtain ⟨b6, A6, n6, c6, A'6, n'6, c'6, dq9, h6⟩ : VQ (((v) * (((10 : Int) : Rat))) + ((((d : Nat) : Int) : Rat))) ((((1 + 3 * i)) + (1)) + (1) + 1) (xf 9) wq := hd ⟨9, .data⟩ (by simp) rfl
          dsimp only at hblk
          refine ⟨[.bool b6, .slice A6 n6 c6, .slice A'6 n'6 c'6], fun w' hk => ⟨b6, A6, n6, c6, A'6, n'6, c'6, rfl, h6.keep hk⟩, fun K hK => ?_⟩
          have hc0 : wq.cell? ⟨w.heap.size + 1, 0, none⟩ = some (.bool bo) := hblk.cell 0
          have hc1 : wq.cell? ⟨w.heap.size + 1, 1, none⟩ = some (.slice Ao no co) := hblk.cell 1
          have hc2 : wq.cell? ⟨w.heap.size + 1, 2, none⟩ = some (.slice Do mo eo) := hblk.cell 2
          have hf0 : wq.frozen? ⟨w.heap.size + 1, 0, none⟩ = false := hblk.frozen 0
          have hf1 : wq.frozen? ⟨w.heap.size + 1, 1, none⟩ = false := hblk.frozen 1
          have hf2 : wq.frozen? ⟨w.heap.size + 1, 2, none⟩ = false := hblk.frozen 2
          (try dsimp only)
          simp only [dq9]
          go_simp
          have hz := hK.out undef
          simp only [dq9] at hz
          exact hz⟩))
      clear cx1ba cx1bb cx1bc lx1ba lx1bb lx1bc lx1bd
      intro y2 w2 kq2 hbl2 lw2 how hrr hfl hds
      replace ho := ho.keep kq2
      replace hkp := hkp.trans kq2
      obtain ⟨_, z2_0, ez, _⟩ := how _ (List.Mem.head _)
      obtain rfl := ez (by simp)
      dsimp only at z2_0
      obtain ⟨_, z2_1, _, ez⟩ := how _ (List.Mem.tail _ (List.Mem.head _))
      obtain ⟨b6, A6, n6, c6, A'6, n'6, c'6, rfl, h6⟩ := ez (by simp)
      dsimp only at z2_1
      (try dsimp only)
      clear hrr hfl how hds 
      clear x1a x1b
      have bw2 := hbw.trans hbl2
      have cz2_1_0 : w2.cell? ⟨w.heap.size + 1, 0, none⟩ = some (.bool b6) := z2_1.cell 0
      have cz2_1_1 : w2.cell? ⟨w.heap.size + 1, 1, none⟩ = some (.slice A6 n6 c6) := z2_1.cell 1
      have cz2_1_2 : w2.cell? ⟨w.heap.size + 1, 2, none⟩ = some (.slice A'6 n'6 c'6) := z2_1.cell 2
      obtain ⟨lz2_1_0, lz2_1_1, lz2_1_2, lz2_1_3⟩ := lts1 z2_1.lt
      go_wp2_with fail
      clear cz2_1_0 cz2_1_1 cz2_1_2 lz2_1_0 lz2_1_1 lz2_1_2 lz2_1_3
      go_roundw
      case rel => exact ⟨i + 1, b6, A6, n6, c6, A'6, n'6, c'6, by go_num, by omega, by rw [← HQ.out]; exact h6.mono (by omega), hkp, bw2, by omega, z2_0, z2_1⟩
      case measure => simp [intOf]; omega
    · have hi1 : ((i : Int) < (s.length : Int)) = False := by simp; omega
      obtain rfl : i = s.length := by omega
      rw [List.take_length] at ho
      obtain ⟨cx1aa, cx1ab, cx1ac⟩ := x1a.c3
      obtain ⟨fx1aa, fx1ab, fx1ac⟩ := x1a.f3
      obtain ⟨lx1aa, lx1ab, lx1ac, lx1ad⟩ := lts0 x1a.lt
      obtain ⟨cx1ba, cx1bb, cx1bc⟩ := x1b.c3
      obtain ⟨lx1ba, lx1bb, lx1bc, lx1bd⟩ := lts1 x1b.lt
      go_wp2_with fail
      refine bodyPost_ret (v := .agg #[.bool bo, .slice Ao no co, .slice Do mo eo]) (by simp [results, Tryz.results39, go_sem, *] <;> first | rfl | exact ⟨rfl, rfl⟩) rfl ?_
      exact ⟨_, _, _, _, _, _, _, rfl, (ho.keep ((((Kp.refl wr).sb w.heap.size 0 x1a.box (by decide) (.bool bo)).sb w.heap.size 1 (x1a.box.set ⟨w.heap.size, 0, none⟩ (.bool bo)) (by decide) (.slice Ao no co)).sb w.heap.size 2 ((x1a.box.set ⟨w.heap.size, 0, none⟩ (.bool bo)).set ⟨w.heap.size, 1, none⟩ (.slice Ao no co)) (by decide) (.slice Do mo eo))).mono (by omega), (((hbw.sc w.heap.size 0 (by omega) (.bool bo)).sc w.heap.size 1 (by omega) (.slice Ao no co)).sc w.heap.size 2 (by omega) (.slice Do mo eo))⟩
end Go.Proofs.YtfbigmdpdcpkfaaGreatDoor
