/- TokenNumbers: a quotient and a decimal fraction have their values; for every input the law returns true. The listed library variables are tied to the program text. -/
import Derived.Below
import Derived.Laws.OwnMore
import Derived.Deep.Draws
import Derived.OneCell
import Derived.Laws.Rows
import Derived.Test.YtfbigmdpdcpkfaaGreatDoorProg
import Derived.WalkKit
import Derived.WalkSpells
import Derived.WalkLawsBesides
import Derived.BigQuiet
import Derived.Deep.QuietTactic
import Derived.Deep.AppendLies
import Derived.Lib.Hide
import Derived.Deep.RegionHeld3
import Derived.Deep.DrawnRows
import Derived.Shelf.Strings.Builder1
import Derived.Shelf.Strings.Builder2
import Derived.Shelf.Strings.OnBuilder
import Derived.Shelf.Strings.Trim
import Derived.Shelf.Small.Utf8
import Derived.Shelf.Small.Bits
import Derived.Shelf.Small.Strs
import Derived.Shelf.Small.Wraps
import Derived.Shelf.Strings.BuilderF
import Derived.Shelf.Strconv.Atoi
import Derived.Shelf.Strconv.Itoa0
import Derived.Shelf.Strconv.Itoa1
import Derived.Shelf.LaysM
import Derived.Shelf.Strconv.Itoa2
import Derived.Shelf.Strconv.Itoa3
import Derived.Shelf.Strings.Search1
import Derived.Shelf.Strings.Search2
import Derived.Shelf.Strings.Cut
import Derived.Shelf.Strings.Shaped
import Derived.Shelf.Strings.Prefix
import Derived.Shelf.Strings.Runes
import Derived.Shelf.Strings.AsciiSet
import Derived.Shelf.Bits.Mul64
import Derived.Shelf.Strings.Repeat
import Derived.Shelf.Unicode.DecodeSlow
import Derived.IntWalk
import Derived.Deep.DeepCutAuto
import Derived.Deep.RegionHeld
import Derived.Lib.ItoaNum
import Derived.Lib.ItoaMem
import Derived.Lib.Repeat
import Derived.Lib.Join
import Derived.Lib.Atoi
import Derived.Lib.SlTrimSet
import Derived.Lib.AppendIntMem
import Derived.Shelf.Strings.SlTrimAscii
import Derived.Lib.IndexMore
import Derived.Test.YtfbigmdpdcpkfaaGreatDoorCards
import Derived.Test.YtfbigmdpdcpkfaaGreatDoorTie
import Derived.ProofKit
import Derived.OpenShut
import Derived.Deep.DeepHandedRow
import Derived.Lib.LaidTab
import Derived.Shelf.Vars
import Derived.ChangeMaps5
import Derived.Test.YtfbigmdpdcpkfaaGreatDoorA3
set_option linter.unusedVariables false
set_option maxHeartbeats 8000000
set_option maxRecDepth 100000
namespace Go.Proofs.YtfbigmdpdcpkfaaGreatDoor
open Go Go.RowKit Bn

theorem of_c (w : World) (i : Int) (h0 : -9223372036854775808 ≤ i) (h1 : i < 9223372036854775808) :
  Calls Tryz.prog 48 #[.int .i64 i] w (RetW w (wh i)) := by
 obtain ⟨v, hv⟩ : ∃ v : Nat, v = i.natAbs := ⟨_, rfl⟩
 have hv2 : v < 18446744073709551616 := by omega
 have hval : val [v % 4294967296, v / 4294967296] = v := by simp [val]; omega
 have HV := Lib.hid hval
 by_cases hneg : i < 0
 ·have e1 : IntKind.u64.wrap i = i + 18446744073709551616 := by unfold IntKind.wrap; simp [IntKind.bits, IntKind.signed]; omega
  have e2 : IntKind.u64.wrap (-(i + 18446744073709551616)) = (v : Int) := by unfold IntKind.wrap; simp [IntKind.bits, IntKind.signed]; omega
  have e3 : decide (i < 0) = true := by simp; omega
  have e4 : IntKind.u32.wrap (v : Int) = ((v % 4294967296 : Nat) : Int) := by unfold IntKind.wrap; simp [IntKind.bits, IntKind.signed]
  have e5 : IntKind.u32.wrap ((v : Int) / 4294967296) = ((v / 4294967296 : Nat) : Int) := by unfold IntKind.wrap; simp [IntKind.bits, IntKind.signed]; omega
  have HZ := Lib.hid (show sgn true v = i by simp [sgn]; omega)
  have HV2 := Lib.hid hv2
  clear hv hval hv2 hneg h0 h1
  go_enter Tryz.func48, Tryz.ntmps48
  go_wp2_with (go_at_call 71; (with_reducible refine (whole_e _ true (some ⟨w.heap.size + 1, 0, none⟩) 2 2 [v % 4294967296, v / 4294967296] i ?_ ?_ ?_).mono ?_); (exact two_word (w.alloc _) _ (by simp) _ _ v (by simp) (by simp) HV2.out); (omega); (rw [HV.out]; exact HZ.out); rintro e w1 ⟨A1, n1, c1, rfl, h1, hb⟩; obtain ⟨hc, hf⟩ := bcell hb)
  have hc0 : w1.cell? ⟨w.heap.size, 0, none⟩ = some (.bool false) := (hc w.heap.size 0 (by simp; omega)).trans (by simp [go_sem])
  have hc1 : w1.cell? ⟨w.heap.size, 1, none⟩ = some (.slice none 0 0) := (hc w.heap.size 1 (by simp; omega)).trans (by simp [go_sem])
  refine bodyPost_ret (v := .agg #[.bool _, .slice A1 n1 c1]) (by simp [results, Tryz.results48, go_sem, hc0, hc1]; rfl) rfl ?_
  have x := ((boxAt w #[.bool false, .slice none 0 0] 67 rfl).alloc _).below hb
  refine retW ?_ ?_ ?_
  ·rfl
  ·exact h1.keep (kp2 x (by decide) _ _ _ _)
  ·exact ((((((Below.refl _ _).alloc (Nat.le_refl _) _).alloc (by simp) _).trans (hb.mono (by simp; omega)))).setCell (by dsimp only; omega) _).setCell (by dsimp only; omega) _
 ·have e1 : IntKind.u64.wrap i = (v : Int) := by unfold IntKind.wrap; simp [IntKind.bits, IntKind.signed]; omega
  have e3 : decide (i < 0) = false := by simp; omega
  have e4 : IntKind.u32.wrap (v : Int) = ((v % 4294967296 : Nat) : Int) := by unfold IntKind.wrap; simp [IntKind.bits, IntKind.signed]
  have e5 : IntKind.u32.wrap ((v : Int) / 4294967296) = ((v / 4294967296 : Nat) : Int) := by unfold IntKind.wrap; simp [IntKind.bits, IntKind.signed]; omega
  have HZ := Lib.hid (show sgn false v = i by simp [sgn]; omega)
  have HV2 := Lib.hid hv2
  clear hv hval hv2 hneg h0 h1
  go_enter Tryz.func48, Tryz.ntmps48
  go_wp2_with (go_at_call 71; (with_reducible refine (whole_e _ false (some ⟨w.heap.size + 1, 0, none⟩) 2 2 [v % 4294967296, v / 4294967296] i ?_ ?_ ?_).mono ?_); (exact two_word (w.alloc _) _ (by simp) _ _ v (by simp) (by simp) HV2.out); (omega); (rw [HV.out]; exact HZ.out); rintro e w1 ⟨A1, n1, c1, rfl, h1, hb⟩; obtain ⟨hc, hf⟩ := bcell hb)
  have hc0 : w1.cell? ⟨w.heap.size, 0, none⟩ = some (.bool false) := (hc w.heap.size 0 (by simp; omega)).trans (by simp [go_sem])
  have hc1 : w1.cell? ⟨w.heap.size, 1, none⟩ = some (.slice none 0 0) := (hc w.heap.size 1 (by simp; omega)).trans (by simp [go_sem])
  refine bodyPost_ret (v := .agg #[.bool _, .slice A1 n1 c1]) (by simp [results, Tryz.results48, go_sem, hc0, hc1]; rfl) rfl ?_
  have x := ((boxAt w #[.bool false, .slice none 0 0] 67 rfl).alloc _).below hb
  refine retW ?_ ?_ ?_
  ·rfl
  ·exact h1.keep (kp2 x (by decide) _ _ _ _)
  ·exact ((((((Below.refl _ _).alloc (Nat.le_refl _) _).alloc (by simp) _).trans (hb.mono (by simp; omega)))).setCell (by dsimp only; omega) _).setCell (by dsimp only; omega) _
end Go.Proofs.YtfbigmdpdcpkfaaGreatDoor

namespace Go.Proofs.YtfbigmdpdcpkfaaGreatDoor
open Go Go.RowKit Bn

section
variable {w w' : World} {b : Bool} {A A' : Option Addr} {n c n' c' k j : Nat} {z : Int} {q : Rat} {a : RD}
end
section
variable (w : World) (b : Bool) (A : Option Addr) (n c : Nat) (z : Int) (k : Nat) (h : IZ w b A n c z k) (b' : Bool) (A' : Option Addr) (n' c' : Nat) (z' : Int) (k' : Nat) (h' : IZ w b' A' n' c' z' k')
include h
include h'
end
theorem i_of (w : World) (i : Int) (k : Nat) (h0 : -9223372036854775808 ≤ i) (h1 : i < 9223372036854775808) (hs : i.natAbs < 4294967296 ^ k) : Calls Tryz.prog 48 #[.int .i64 i] w (RetI w i k) :=
  (of_c w i h0 h1).mono fun _ _ r => r.i hs
end Go.Proofs.YtfbigmdpdcpkfaaGreatDoor

namespace Bn
open Go.Lib
theorem nDig_le : ∀ {k u : Nat}, 0 < k → u < 10 ^ k → nDigits u ≤ k
  | 0, _, h, _ => absurd h (by omega)
  | k + 1, u, _, hu => by
    by_cases h : u < 10
    · rw [nDigits_small h]; omega
    · rw [nDigits_big h]
      have h0 : k ≠ 0 := by rintro rfl; exact h (by simpa using hu)
      have := nDig_le (k := k) (u := u / 10) (by omega) (by rw [Nat.pow_succ] at hu; omega)
      omega
end Bn

namespace Bn
open Go.Lib
theorem digit_ok {d : Nat} (h : d < 10) : isDg (UInt8.ofNat (48 + d)) = true ∧ dval (UInt8.ofNat (48 + d)) = d := by
  have e : (UInt8.ofNat (48 + d)).toNat = 48 + d := by simp; omega
  unfold isDg dval
  rw [e]
  simp; omega
theorem dec_all (n : Nat) : (decDigits n).all isDg = true ∧ decVal (decDigits n) = n := by
  induction n using Nat.strongRecOn with
  | ind n ih =>
    by_cases h : n < 10
    · rw [decDigits_one h]
      have h1 := digit_ok h
      generalize UInt8.ofNat (48 + n) = c at h1
      refine ⟨by rw [List.all_cons, h1.1]; rfl, ?_⟩
      rw [← List.nil_append [c], decVal_snoc, h1.2]; simp [decVal]
    · have e : decDigits n = decDigits (n / 10) ++ [UInt8.ofNat (48 + n % 10)] := by
        conv => lhs; rw [decDigits, dif_neg h]
      have h1 := ih (n / 10) (by omega)
      have h2 := digit_ok (Nat.mod_lt n (show 0 < 10 by omega))
      generalize UInt8.ofNat (48 + n % 10) = c at h2 e
      refine ⟨by rw [e, List.all_append, h1.1, List.all_cons, h2.1]; rfl, ?_⟩
      rw [e, decVal_snoc, h1.2, h2.2]; omega
theorem dec_ne (n : Nat) : decDigits n ≠ [] := by
  intro h
  have := decDigits_length n
  rw [h] at this
  have := nDigits_pos n
  simp at *; omega
end Bn

namespace Go.Proofs.YtfbigmdpdcpkfaaGreatDoor
open Go Go.RowKit Bn
attribute [local go_sem ↓] Go.wp_at_zero Go.wp_at_succ
theorem i_of_2 (w : World) (i : Int) (h0 : -9223372036854775808 ≤ i) (h1 : i < 9223372036854775808) : Calls Tryz.prog 48 #[.int .i64 i] w (RetI w i 2) := i_of w i 2 h0 h1 (by omega)
theorem f_make_2 (w : World) (i j : Int) (hi : -9223372036854775808 ≤ i) (hi2 : i < 9223372036854775808) (hj : -9223372036854775808 ≤ j) (hj2 : j < 9223372036854775808) (q : Rat) (K : Nat) (hd : j ≠ 0) (hq : Rat.divInt i j = q) (hs : Sz q K) :
  Calls Tryz.prog 22 #[.int .i64 i, .int .i64 j] w (RetFe w (.nilIface) q K) := by
 have HD := Lib.hid hd
 have HQ := Lib.hid hq
 have HS := Lib.hid hs
 clear hd hq hs
 go_enter Tryz.func22, Tryz.ntmps22
 go_wp2_with fail
 (with_reducible refine (i_of_2 _ (i) ?_ ?_).mono ?_); (first | omega | decide | assumption); (first | omega | decide | assumption); rintro e w1 ⟨b1, A1, n1, c1, rfl, h1, hb1⟩
 have q1 := ((Below.refl _ _).alloc (Nat.le_refl _) _).trans (hb1.mono (by simp))
 have x1a : Blk w1 w.heap.size 39 #[.bool false, .slice none 0 0, .slice none 0 0] := (blkAt _ _ _ (by simp)).below hb1 (by simp)
 have bw1 := (brefl w).trans (q1.mono (brefl w).size)
 have lw1 : w.heap.size + 1 ≤ w1.heap.size := by have := hb1.size; simp at this; omega
 clear q1
 go_wp2_with fail
 (with_reducible refine (i_of_2 _ (j) ?_ ?_).mono ?_); (first | omega | decide | assumption); (first | omega | decide | assumption); rintro e w2 ⟨b2, A2, n2, c2, rfl, h2, q2⟩
 replace h1 := h1.belw q2
 replace x1a := x1a.b q2
 have bw2 := bw1.trans (q2.mono bw1.size)
 have lw2 := q2.size
 clear q2 bw1
 go_wp2_with fail
 (with_reducible refine (f_from _ b1 A1 n1 c1 (i) (2) ?_ b2 A2 n2 c2 (j) (2) ?_ q K ?_ ?_ ?_ ?_).mono ?_); (exact h1.iz); (exact h2.iz); (exact HD.out); (exact HQ.out); (exact HS.out); (decide); rintro e w3 ⟨b3, A3, n3, c3, A'3, n'3, c'3, rfl, h3, q3⟩
 replace h1 := h1.belw q3
 replace h2 := h2.belw q3
 replace x1a := x1a.b q3
 have bw3 := bw2.trans (q3.mono bw2.size)
 have lw3 := q3.size
 clear q3 bw2
 obtain ⟨cx1aa, cx1ab, cx1ac⟩ := x1a.c3
 obtain ⟨fx1aa, fx1ab, fx1ac⟩ := x1a.f3
 obtain ⟨lx1aa, lx1ab, lx1ac, lx1ad⟩ := lts0 x1a.lt
 go_wp2_with fail
 refine bodyPost_ret (v := .tuple #[.agg #[.bool b3, .slice A3 n3 c3, .slice A'3 n'3 c'3], .nilIface]) (by simp [results, Tryz.results22, go_sem, *] <;> first | rfl | exact ⟨rfl, rfl⟩) rfl ?_
 exact ⟨b3, A3, n3, c3, A'3, n'3, c'3, rfl, h3.keep ((((Kp.refl w3).sb w.heap.size 0 x1a.box (by decide) (.bool b3)).sb w.heap.size 1 (x1a.box.set ⟨w.heap.size, 0, none⟩ (.bool b3)) (by decide) (.slice A3 n3 c3)).sb w.heap.size 2 ((x1a.box.set ⟨w.heap.size, 0, none⟩ (.bool b3)).set ⟨w.heap.size, 1, none⟩ (.slice A3 n3 c3)) (by decide) (.slice A'3 n'3 c'3)), (((bw3.sc w.heap.size 0 (by omega) (.bool b3)).sc w.heap.size 1 (by omega) (.slice A3 n3 c3)).sc w.heap.size 2 (by omega) (.slice A'3 n'3 c'3))⟩
end Go.Proofs.YtfbigmdpdcpkfaaGreatDoor

/- Values of numbers that are written: plain. -/
namespace Go.Proofs.YtfbigmdpdcpkfaaGreatDoor
open Go Go.RowKit Bn Go.Lib
theorem digN_front {D r : List UInt8} (hD : D.all isDg = true) (hr : ∀ c t, r = c :: t → isDg c = false) : digN (D ++ r) = D.length := by
  induction D with
  | nil =>
    cases r with
    | nil => rfl
    | cons c t => unfold digN; rw [List.nil_append, List.takeWhile_cons, hr c t rfl]; rfl
  | cons x D ih =>
    rw [List.all_cons, Bool.and_eq_true] at hD
    unfold digN at ih ⊢
    rw [List.cons_append, List.takeWhile_cons, hD.1, if_pos rfl, List.length_cons, List.length_cons, ih hD.2]
theorem minN_sg {m : Bool} {D r : List UInt8} (h : isD D) : minN (sg m (D ++ r)) = (if m then 1 else 0) ∧ (sg m (D ++ r)).drop (if m then 1 else 0) = D ++ r := by
  obtain ⟨c, t, rfl, hc⟩ := isD_head h
  have h45 : c ≠ 45 := by rintro rfl; exact absurd hc (by decide)
  cases m
  · refine ⟨?_, rfl⟩
    show minN (c :: (t ++ r)) = 0
    unfold minN; split
    · rename_i h1; injection h1 with h2; exact absurd h2 h45
    · rfl
  · exact ⟨rfl, rfl⟩
theorem numN_sg {m : Bool} {D E : List UInt8} {c : UInt8} (hD : isD D) (hE : isD E) (hc : c = 46 ∨ c = 47) : numN (sg m (D ++ c :: E)) = (sg m (D ++ c :: E)).length := by
  have hcd : isDg c = false := by rcases hc with rfl | rfl <;> decide
  have h1 : digN (D ++ c :: E) = D.length := digN_front hD.2 (fun c' t e => by injection e with e _; rw [← e]; exact hcd)
  have h2 : digN E = E.length := by have := digN_front (r := []) hE.2 (by simp); rwa [List.append_nil] at this
  have hDl : 0 < D.length := List.length_pos_iff.2 hD.1
  have hEl : 0 < E.length := List.length_pos_iff.2 hE.1
  obtain ⟨hm, hd⟩ := minN_sg (m := m) (r := c :: E) hD
  have hd2 : (sg m (D ++ c :: E)).drop ((if m then 1 else 0) + D.length) = c :: E := by rw [← List.drop_drop, hd, List.drop_left]
  unfold numN
  rw [hm, hd, h1, hd2, if_neg (by omega)]
  have h3 : tailN (c :: E) = 1 + E.length := by
    have h9 : (decide (0 < digN E)) = true := by rw [h2]; simpa using hEl
    rw [tailN, h9, h2]
    rcases hc with rfl | rfl <;> rfl
  rw [h3]
  have hl : (sg m (D ++ c :: E)).length = (if m then 1 else 0) + (D.length + (1 + E.length)) := by
    have := congrArg List.length hd
    rw [List.length_drop, List.length_append, List.length_cons] at this
    have h9 : (if m then 1 else 0) ≤ (sg m (D ++ c :: E)).length := by cases m <;> simp [sg]
    omega
  omega
theorem isD_dec (n : Nat) : isD (decDigits n) := ⟨dec_ne n, (dec_all n).1⟩
theorem pad_ok : ∀ (k r : Nat), (padN k r).length = k ∧ (padN k r).all isDg = true ∧ (r < 10 ^ k → decVal (padN k r) = r)
  | 0, r => ⟨rfl, rfl, fun h => by have : r = 0 := by simpa using h
                                   subst this; rfl⟩
  | k + 1, r => by
    obtain ⟨h1, h2, h3⟩ := pad_ok k (r / 10)
    have h4 := digit_ok (d := r % 10) (by omega)
    refine ⟨by unfold padN; rw [List.length_append, h1]; rfl, by unfold padN; rw [List.all_append, h2, List.all_cons, h4.1]; rfl, fun h => ?_⟩
    unfold padN
    rw [decVal_snoc, h3 (by rw [Nat.pow_succ] at h; omega), h4.2]
    omega
theorem thousand {k : Nat} (h : k < 1000) : ∃ E, decDigits (1000 + k) = 49 :: E ∧ E.length = 3 ∧ isD E ∧ decVal E = k := by
  obtain ⟨h1, h2, h3⟩ := pad_ok 3 k
  refine ⟨padN 3 k, ?_, h1, ⟨fun e => by (rw [e] at h1; cases h1), h2⟩, h3 h⟩
  have := dec_pad 3 (q := 1) (r := k) (by decide) h
  rw [show 1 * 10 ^ 3 + k = 1000 + k by omega] at this
  rw [this, show decDigits 1 = [49] by rw [decDigits, dif_pos (by decide)]; rfl]
  rfl
def decI (z : Int) : List UInt8 := sg (decide (z < 0)) (decDigits z.natAbs)
theorem decDigits_len {n k : Nat} (hk : 0 < k) (h : n < 10 ^ k) : (decDigits n).length ≤ k := by rw [decDigits_length]; exact nDig_le hk h
theorem num_quo (z : Int) (d : Nat) (hz : z.natAbs < 10 ^ 9) (hd : d < 10 ^ 9) (h0 : d ≠ 0) : ValOut (decI z ++ 47 :: decDigits d) 0 (Rat.divInt z d) := by
  have e : decI z ++ 47 :: decDigits d = sg (decide (z < 0)) (decDigits z.natAbs ++ 47 :: decDigits d) := by
    unfold decI sg
    split <;> rfl
  have h1 := decDigits_len (by decide) hz
  have h2 := decDigits_len (by decide) hd
  rw [e]
  refine .quo (decide (z < 0)) (decDigits z.natAbs) (decDigits d) ?_ (numN_sg (isD_dec _) (isD_dec _) (.inr rfl)) (isD_dec _) (isD_dec _) rfl (by rw [(dec_all d).2]; exact h0) rfl ?_
  · unfold sg
    split <;> simp only [List.length_cons, List.length_append] <;> omega
  · rw [(dec_all d).2, (dec_all _).2]
    unfold sgI
    by_cases hz0 : z < 0
    · rw [if_pos (by simpa using hz0)]; congr 1; omega
    · rw [if_neg (by simpa using hz0)]; congr 1; omega
theorem num_dot (n k : Nat) (hn : n < 10 ^ 9) (hk : k < 1000) (E : List UInt8) (hE : decDigits (1000 + k) = 49 :: E) : ValOut (decDigits n ++ 46 :: E) 0 (Rat.divInt ((1000 * n + k : Nat) : Int) 1000) := by
  obtain ⟨E', h1, h2, h3, h4⟩ := thousand hk
  have : E = E' := by rw [hE] at h1; injection h1
  subst this
  have h5 := decDigits_len (by decide) hn
  refine .dot false (decDigits n) E ?_ (numN_sg (m := false) (isD_dec _) h3 (.inl rfl)) (isD_dec _) h3 rfl rfl ?_
  · simp only [List.length_cons, List.length_append]; omega
  · rw [decVal_app, (dec_all n).2, h2, h4]
    show _ = Rat.divInt ((n * 10 ^ 3 + k : Nat) : Int) _
    congr 2
    omega
theorem dec_one {n : Nat} (h : n < 10) : decDigits n = [UInt8.ofNat (48 + n)] := by rw [decDigits, dif_pos h]
theorem dec_more {n : Nat} (h : 10 ≤ n) : decDigits n = decDigits (n / 10) ++ [UInt8.ofNat (48 + n % 10)] := by
  rw [decDigits, dif_neg (by omega)]
end Go.Proofs.YtfbigmdpdcpkfaaGreatDoor

/- Walks: the digits of a number. -/
namespace Go.Proofs.YtfbigmdpdcpkfaaGreatDoor
open Go Go.RowKit Bn Go.Lib
attribute [local go_sem ↓] Go.wp_at_zero Go.wp_at_succ
theorem digit_sl {k : Nat} (h : k < 10) : (⟨#[48, 49, 50, 51, 52, 53, 54, 55, 56, 57]⟩ : ByteArray).extract k (k + 1) = ⟨[UInt8.ofNat (48 + k)].toArray⟩ := by
  match k, h with
  | 0, _ => rfl
  | 1, _ => rfl
  | 2, _ => rfl
  | 3, _ => rfl
  | 4, _ => rfl
  | 5, _ => rfl
  | 6, _ => rfl
  | 7, _ => rfl
  | 8, _ => rfl
  | 9, _ => rfl
theorem l_decimal : ∀ (n : Nat), n < 1000000000 → ∀ (w : World), Calls Tryz.prog 21 #[.int .i64 (n : Nat)] w (RetV w (strV (decDigits n))) := by
  intro n
  induction n using Nat.strongRecOn with
  | ind n ih =>
    intro hn w
    have f0 : ((n : Int) < 0) = False := eq_false (by omega)
    have r1 : Int.tmod (n : Int) 10 = ((n % 10 : Nat) : Int) := rfl
    have r2 : Int.tdiv (n : Int) 10 = ((n / 10 : Nat) : Int) := rfl
    obtain ⟨d, hd⟩ : ∃ d, n % 10 = d := ⟨_, rfl⟩
    have hd10 : d < 10 := by omega
    rw [hd] at r1
    have hsl := digit_sl hd10
    have hw : IntKind.i64.wrap ((d : Int) + 1) = (d : Int) + 1 := IntWalk.i64_in _ ⟨by omega, by omega⟩
    have ht : ((d : Int) + 1).toNat = d + 1 := by omega
    have h1 : (0 : Int) ≤ (d : Int) := by omega
    have h2 : (d : Int) ≤ (d : Int) + 1 := by omega
    have h3 : (d : Int) + 1 ≤ 10 := by omega
    have h4 : (0 : Int) ≤ (d : Int) + 1 := by omega
    obtain ⟨c, hcc⟩ : ∃ c : UInt8, UInt8.ofNat (48 + d) = c := ⟨_, rfl⟩
    rw [hcc] at hsl
    by_cases hlt : n < 10
    · have f1 : ((n : Int) < 10) = True := eq_true (by omega)
      have hR : decDigits n = [c] := by rw [dec_one hlt, show 48 + n = 48 + d by omega, hcc]
      rw [hR]
      clear ih hR hcc
      go_enter Tryz.func21, Tryz.ntmps21
      go_wp2_with fail
      go_ret
      exact ⟨rfl, brefl w⟩
    · have f1 : ((n : Int) < 10) = False := eq_false (by omega)
      have hR : decDigits n = decDigits (n / 10) ++ [c] := by rw [dec_more (by omega), hd, hcc]
      obtain ⟨q, hq⟩ : ∃ q, n / 10 = q := ⟨_, rfl⟩
      rw [hq] at r2 hR
      have IH := Lib.hid (ih q (by omega) (by omega))
      obtain ⟨T, hT⟩ : ∃ T, decDigits q = T := ⟨_, rfl⟩
      have hTl : T.length ≤ 9 := by rw [← hT]; exact decDigits_len (by decide) (by omega)
      rw [hT] at IH hR
      rw [hR]
      have ha := app_v T [c]
      have hk : (9223372036854775807 < T.length + 1) = False := eq_false (by omega)
      clear ih hR hT hcc
      go_enter Tryz.func21, Tryz.ntmps21
      go_wp2_with fail
      (with_reducible refine (IH.out w).mono ?_); rintro e w1 ⟨rfl, hb1⟩
      go_wp2_with fail
      go_ret
      exact ⟨rfl, hb1⟩
theorem l_decimal_z (w : World) (z : Int) (h : -1000000000 < z ∧ z < 1000000000) : Calls Tryz.prog 21 #[.int .i64 z] w (RetV w (strV (decI z))) := by
 by_cases hz : z < 0
 ·have f0 : (z < 0) = True := eq_true hz
  obtain ⟨n, hn⟩ : ∃ n : Nat, z.natAbs = n := ⟨_, rfl⟩
  have e1 : -z = (n : Int) := by omega
  have hR : decI z = 45 :: decDigits n := by unfold decI sg; rw [if_pos (by simpa using hz), hn]
  have hnl : n < 1000000000 := by omega
  obtain ⟨T, hT⟩ : ∃ T, decDigits n = T := ⟨_, rfl⟩
  have hTl : T.length ≤ 9 := by rw [← hT]; exact decDigits_len (by decide) hnl
  have IH := Lib.hid (fun w => l_decimal n hnl w)
  rw [hT] at IH hR
  rw [hR]
  have ha := app_v [45] T
  have hk : (9223372036854775807 < 1 + T.length) = False := eq_false (by omega)
  have hw : IntKind.i64.wrap (-z) = (n : Int) := by rw [e1]; exact IntWalk.i64_in _ ⟨by omega, by omega⟩
  clear hT hR hn
  go_enter Tryz.func21, Tryz.ntmps21
  go_wp2_with fail
  (with_reducible refine (IH.out w).mono ?_); rintro e w1 ⟨rfl, hb1⟩
  go_wp2_with fail
  go_ret
  exact ⟨rfl, hb1⟩
 ·obtain ⟨n, rfl⟩ : ∃ n : Nat, z = (n : Int) := ⟨z.toNat, by omega⟩
  have hR : decI (n : Int) = decDigits n := by unfold decI sg; rw [if_neg (by simp)]; rfl
  rw [hR]
  exact l_decimal n (by omega) w
end Go.Proofs.YtfbigmdpdcpkfaaGreatDoor

/- Walks: TokenNumbers. -/
namespace Go.Proofs.YtfbigmdpdcpkfaaGreatDoor
open Go Go.RowKit Bn Go.Lib
attribute [local go_sem ↓] Go.wp_at_zero Go.wp_at_succ
theorem t_value_ok (w : World) (s : List UInt8) (q : Rat) (hmx : Mx w) (h : ValOut s 0 q) : Calls Tryz.prog 16 #[strV s] w (RetFe w .nilIface q 130) := by
  have := t_value_o w s 0 q hmx h
  rw [errV_0] at this
  exact this
theorem l_decimal_at (w : World) (z : Int) (T : List UInt8) (h : -1000000000 < z ∧ z < 1000000000) (hT : decI z = T) : Calls Tryz.prog 21 #[.int .i64 z] w (RetV w (strV T)) := by
  subst hT
  exact l_decimal_z w z h
theorem decI_len {z : Int} (h : -1000000000 < z ∧ z < 1000000000) : (decI z).length ≤ 10 := by
  have h1 := decDigits_len (n := z.natAbs) (k := 9) (by decide) (by omega)
  unfold decI sg
  split <;> (try simp only [List.length_cons]) <;> omega
theorem wfi16 {i : Int} (h : (Lit.int .i16 i).wf = true) : -32768 ≤ i ∧ i ≤ 32767 := by simpa [Lit.wf, IntKind.min, IntKind.max, IntKind.signed, IntKind.bits] using h
theorem wfu16 {i : Int} (h : (Lit.int .u16 i).wf = true) : 0 ≤ i ∧ i ≤ 65535 := by simpa [Lit.wf, IntKind.min, IntKind.max, IntKind.signed, IntKind.bits] using h
theorem decI_nat (n : Nat) : decI (n : Int) = decDigits n := by
  unfold decI sg
  rw [if_neg (by simp)]; rfl
theorem l_TokenNumbers (w : World) (n : Int) (hn : -32768 ≤ n ∧ n ≤ 32767) (d : Int) (hd : -32768 ≤ d ∧ d ≤ 32767) (c : Int) (hc : 0 ≤ c ∧ c ≤ 65535) (_ : Tab w) (hmx : Mx w) : Calls Tryz.prog 7 #[.int .i16 n, .int .i16 d, .int .u16 c] w (RetV w (.bool true)) := by
 have hz1 : -1000000000 < n ∧ n < 1000000000 := by omega
 have hw0 : IntKind.i64.wrap n = n := IntWalk.i64_in _ ⟨by omega, by omega⟩
 have hw1 : IntKind.i64.wrap d = d := IntWalk.i64_in _ ⟨by omega, by omega⟩
 obtain ⟨D, hD⟩ : ∃ D : Nat, max 1 d = (D : Int) := ⟨(max 1 d).toNat, by omega⟩
 have hDb : 0 < D ∧ D ≤ 32767 := by omega
 obtain ⟨N, hN⟩ : ∃ N : Nat, max n 0 = (N : Int) := ⟨(max n 0).toNat, by omega⟩
 have hNb : N ≤ 32767 := by omega
 obtain ⟨cn, rfl⟩ : ∃ cn : Nat, c = (cn : Int) := ⟨c.toNat, by omega⟩
 have hcb : cn ≤ 65535 := by omega
 have hw2 : IntKind.i64.wrap (cn : Int) = (cn : Int) := IntWalk.i64_in _ ⟨by omega, by omega⟩
 have hw3 : IntKind.i64.wrap (N : Int) = (N : Int) := IntWalk.i64_in _ ⟨by omega, by omega⟩
 have hr : Int.tmod (cn : Int) 1000 = ((cn % 1000 : Nat) : Int) := rfl
 obtain ⟨k, hk⟩ : ∃ k, cn % 1000 = k := ⟨_, rfl⟩
 have hkb : k < 1000 := by omega
 rw [hk] at hr
 have hw4 : IntKind.i64.wrap (1000 * (N : Int)) = 1000 * (N : Int) := IntWalk.i64_in _ ⟨by omega, by omega⟩
 have hw5 : IntKind.i64.wrap (1000 * (N : Int) + (k : Int)) = 1000 * (N : Int) + (k : Int) := IntWalk.i64_in _ ⟨by omega, by omega⟩
 have hw6 : IntKind.i64.wrap (1000 + (k : Int)) = 1000 + (k : Int) := IntWalk.i64_in _ ⟨by omega, by omega⟩
 have hv1 := num_quo n D (by omega) (by omega) (by omega)
 obtain ⟨F, hF, hFl, hF2, hF3⟩ := thousand hkb
 have hv2 := num_dot N k (by omega) hkb F hF
 have hp : (4294967296 : Nat) ^ 2 = 18446744073709551616 := by decide
 have hs1 : Sz (Rat.divInt n (D : Int)) 2 := Sz_divInt (by omega) (by omega) (by omega)
 have hs2 : Sz (Rat.divInt ((1000 * N + k : Nat) : Int) 1000) 2 := Sz_divInt (by omega) (by omega) (by decide)
 rw [show ((1000 * N + k : Nat) : Int) = 1000 * (N : Int) + (k : Int) by omega] at hv2 hs2
 obtain ⟨T, hT⟩ : ∃ T, decI n = T := ⟨_, rfl⟩
 obtain ⟨E, hE⟩ : ∃ E, decI (D : Int) = E := ⟨_, rfl⟩
 obtain ⟨U, hU⟩ : ∃ U, decI (N : Int) = U := ⟨_, rfl⟩
 have hG : decI (1000 + (k : Int)) = 49 :: F := by rw [show 1000 + (k : Int) = ((1000 + k : Nat) : Int) by omega, decI_nat]; exact hF
 have hTl : T.length ≤ 10 := by rw [← hT]; exact decI_len hz1
 have hEl : E.length ≤ 10 := by rw [← hE]; exact decI_len (by omega)
 have hUl : U.length ≤ 10 := by rw [← hU]; exact decI_len (by omega)
 rw [hT, ← decI_nat, hE] at hv1
 rw [← decI_nat, hU] at hv2
 obtain ⟨v1, hq1⟩ : ∃ v, Rat.divInt n (D : Int) = v := ⟨_, rfl⟩
 obtain ⟨v2, hq2⟩ : ∃ v, Rat.divInt (1000 * (N : Int) + (k : Int)) 1000 = v := ⟨_, rfl⟩
 rw [hq1] at hv1 hs1
 rw [hq2] at hv2 hs2
 have k1 : (9223372036854775807 < T.length + 1) = False := eq_false (by omega)
 have k2 : (9223372036854775807 < T.length + 1 + E.length) = False := eq_false (by omega)
 have k3 : (9223372036854775807 < U.length + 1) = False := eq_false (by omega)
 have k4 : (9223372036854775807 < U.length + 1 + F.length) = False := eq_false (by omega)
 have ha1 := app_v T [47]
 have ha2 := app_v (T ++ [47]) E
 have ha3 := app_v U [46]
 have ha4 := app_v (U ++ [46]) F
 have e1 : (⟨(49 :: F).toArray⟩ : ByteArray).extract 1 (F.length + 1) = ⟨F.toArray⟩ := by
  rw [ext_v]; simp
 have hsl : (1 : Int) ≤ (F.length : Int) + 1 := by omega
 have hszF := size_v (49 :: F)
 have HV1 := Lib.hid hv1
 have HV2 := Lib.hid hv2
 have HS1 := Lib.hid hs1
 have HS2 := Lib.hid hs2
 have HT := Lib.hid hT
 have HE := Lib.hid hE
 have HU := Lib.hid hU
 have HG := Lib.hid hG
 have HQ1 := Lib.hid hq1
 have HQ2 := Lib.hid hq2
 clear hv1 hv2 hs1 hs2 hT hE hU hG hq1 hq2 hF hF2 hF3 hk hp hFl
 go_enter Tryz.func7, Tryz.ntmps7
 go_wp2_with fail
 (with_reducible refine (l18_awake _ (hmx.belw (brefl w))).mono ?_); rintro e w1 ⟨rfl, q1⟩
 have bw1 := (brefl w).trans (q1.mono (brefl w).size)
 have lw1 := q1.size
 clear q1
 go_wp2_with fail
 (with_reducible refine (l_decimal_at _ (n) (T) (by omega) HT.out).mono ?_); rintro e w2 ⟨rfl, q2⟩
 have bw2 := bw1.trans (q2.mono bw1.size)
 have lw2 := q2.size
 clear q2 bw1
 go_wp2_with fail
 (with_reducible refine (l_decimal_at _ ((D : Nat)) (E) (by omega) HE.out).mono ?_); rintro e w3 ⟨rfl, q3⟩
 have bw3 := bw2.trans (q3.mono bw2.size)
 have lw3 := q3.size
 clear q3 bw2
 go_wp2_with fail
 (with_reducible refine (f_make_2 _ (n) ((D : Nat)) (by omega) (by omega) (by omega) (by omega) v1 2 (by omega) HQ1.out HS1.out).mono ?_); rintro e w4 ⟨b4, A4, n4, c4, A'4, n'4, c'4, rfl, h4, q4⟩
 have bw4 := bw3.trans (q4.mono bw3.size)
 have lw4 := q4.size
 clear q4 bw3
 go_wp2_with fail
 (with_reducible refine (t_value_ok _ ((T ++ 47 :: E)) v1 (hmx.belw (bw4.alloc (by first | omega | (simp <;> omega)) (.cells #[.bool b4, .slice A4 n4 c4, .slice A'4 n'4 c'4] 39))) HV1.out).mono ?_); rintro e w5 ⟨b5, A5, n5, c5, A'5, n'5, c'5, rfl, h5, hb5⟩
 have q5 := ((Below.refl _ _).alloc (Nat.le_refl _) _).trans (hb5.mono (by simp))
 replace h4 := h4.belw q5
 have x5a : Blk w5 w4.heap.size 39 #[.bool b4, .slice A4 n4 c4, .slice A'4 n'4 c'4] := (blkAt _ _ _ (by simp)).below hb5 (by simp)
 have bw5 := bw4.trans (q5.mono bw4.size)
 have lw5 : w4.heap.size + 1 ≤ w5.heap.size := by have := hb5.size; simp at this; omega
 clear q5 bw4
 obtain ⟨cx5aa, cx5ab, cx5ac⟩ := x5a.c3
 obtain ⟨lx5aa, lx5ab, lx5ac, lx5ad⟩ := lts0 x5a.lt
 go_wp2_with fail
 (with_reducible refine (b_rat_v9 _ b5 A5 n5 c5 A'5 n'5 c'5 (v1) (130) ?_ b4 A4 n4 c4 A'4 n'4 c'4 (v1) (2) ?_ rfl (by decide)).mono ?_); (exact (h5.belw ((Below.refl _ _).alloc (Nat.le_refl _) _))); (exact (h4.belw ((Below.refl _ _).alloc (Nat.le_refl _) _))); rintro e w6 ⟨rfl, hb6⟩
 clear cx5aa cx5ab cx5ac lx5aa lx5ab lx5ac lx5ad
 have q6 := ((Below.refl _ _).alloc (Nat.le_refl _) _).trans (hb6.mono (by simp))
 replace h4 := h4.belw q6
 replace h5 := h5.belw q6
 replace x5a := x5a.b q6
 have x6a : Blk w6 w5.heap.size 39 #[.bool b5, .slice A5 n5 c5, .slice A'5 n'5 c'5] := (blkAt _ _ _ (by simp)).below hb6 (by simp)
 have bw6 := bw5.trans (q6.mono bw5.size)
 have lw6 : w5.heap.size + 1 ≤ w6.heap.size := by have := hb6.size; simp at this; omega
 clear q6 bw5
 go_wp2_with fail
 (with_reducible refine (f_make_2 _ ((1000 * (N : Int) + (k : Int))) (1000) (by omega) (by omega) (by omega) (by omega) v2 2 (by decide) HQ2.out HS2.out).mono ?_); rintro e w7 ⟨b7, A7, n7, c7, A'7, n'7, c'7, rfl, h7, q7⟩
 replace h4 := h4.belw q7
 replace h5 := h5.belw q7
 replace x5a := x5a.b q7
 replace x6a := x6a.b q7
 have bw7 := bw6.trans (q7.mono bw6.size)
 have lw7 := q7.size
 clear q7 bw6
 obtain ⟨cx5aa, cx5ab, cx5ac⟩ := x5a.c3
 obtain ⟨fx5aa, fx5ab, fx5ac⟩ := x5a.f3
 obtain ⟨lx5aa, lx5ab, lx5ac, lx5ad⟩ := lts0 x5a.lt
 go_wp2_with fail
 clear cx5aa fx5aa cx5ab fx5ab cx5ac fx5ac lx5aa lx5ab lx5ac lx5ad
 have p8 := ((((Kp.refl w7).sb w4.heap.size 0 x5a.box (by decide) (.bool b7)).sb w4.heap.size 1 (x5a.box.set ⟨w4.heap.size, 0, none⟩ (.bool b7)) (by decide) (.slice A7 n7 c7)).sb w4.heap.size 2 ((x5a.box.set ⟨w4.heap.size, 0, none⟩ (.bool b7)).set ⟨w4.heap.size, 1, none⟩ (.slice A7 n7 c7)) (by decide) (.slice A'7 n'7 c'7))
 have bw8 := (((bw7.sc w4.heap.size 0 (by omega) (.bool b7)).sc w4.heap.size 1 (by omega) (.slice A7 n7 c7)).sc w4.heap.size 2 (by omega) (.slice A'7 n'7 c'7))
 replace x5a := (((x5a.set_at 0 (.bool b7) #[.bool b7, .slice A4 n4 c4, .slice A'4 n'4 c'4] (by simp)).set_at 1 (.slice A7 n7 c7) #[.bool b7, .slice A7 n7 c7, .slice A'4 n'4 c'4] (by simp)).set_at 2 (.slice A'7 n'7 c'7) #[.bool b7, .slice A7 n7 c7, .slice A'7 n'7 c'7] (by simp))
 replace x6a := (((x6a.fr w4.heap.size 0 (by omega) (.bool b7)).fr w4.heap.size 1 (by omega) (.slice A7 n7 c7)).fr w4.heap.size 2 (by omega) (.slice A'7 n'7 c'7))
 have lw8 : w7.heap.size + 0 ≤ (((w7.setCell ⟨w4.heap.size, 0, none⟩ (.bool b7)).setCell ⟨w4.heap.size, 1, none⟩ (.slice A7 n7 c7)).setCell ⟨w4.heap.size, 2, none⟩ (.slice A'7 n'7 c'7)).heap.size := by simp
 generalize hE8 : (((w7.setCell ⟨w4.heap.size, 0, none⟩ (.bool b7)).setCell ⟨w4.heap.size, 1, none⟩ (.slice A7 n7 c7)).setCell ⟨w4.heap.size, 2, none⟩ (.slice A'7 n'7 c'7)) = w8 at p8 bw8 lw8 x5a x6a ⊢
 clear hE8
 replace h4 := h4.keep p8
 replace h5 := h5.keep p8
 replace h7 := h7.keep p8
 clear bw7
 (with_reducible refine (l_decimal_at _ ((N : Nat)) (U) (by omega) HU.out).mono ?_); rintro e w9 ⟨rfl, q9⟩
 replace h4 := h4.belw q9
 replace h5 := h5.belw q9
 replace h7 := h7.belw q9
 replace x5a := x5a.b q9
 replace x6a := x6a.b q9
 have bw9 := bw8.trans (q9.mono bw8.size)
 have lw9 := q9.size
 clear q9 bw8
 go_wp2_with fail
 (with_reducible refine (l_decimal_at _ ((1000 + (k : Int))) (49 :: F) (by omega) HG.out).mono ?_); rintro e w10 ⟨rfl, q10⟩
 replace h4 := h4.belw q10
 replace h5 := h5.belw q10
 replace h7 := h7.belw q10
 replace x5a := x5a.b q10
 replace x6a := x6a.b q10
 have bw10 := bw9.trans (q10.mono bw9.size)
 have lw10 := q10.size
 clear q10 bw9
 go_wp2_with fail
 (with_reducible refine (t_value_ok _ ((U ++ 46 :: F)) v2 (hmx.belw bw10) HV2.out).mono ?_); rintro e w11 ⟨b11, A11, n11, c11, A'11, n'11, c'11, rfl, h11, q11⟩
 replace h4 := h4.belw q11
 replace h5 := h5.belw q11
 replace h7 := h7.belw q11
 replace x5a := x5a.b q11
 replace x6a := x6a.b q11
 have bw11 := bw10.trans (q11.mono bw10.size)
 have lw11 := q11.size
 clear q11 bw10
 obtain ⟨cx5aa, cx5ab, cx5ac⟩ := x5a.c3
 obtain ⟨lx5aa, lx5ab, lx5ac, lx5ad⟩ := lts0 x5a.lt
 obtain ⟨cx6aa, cx6ab, cx6ac⟩ := x6a.c3
 obtain ⟨fx6aa, fx6ab, fx6ac⟩ := x6a.f3
 obtain ⟨lx6aa, lx6ab, lx6ac, lx6ad⟩ := lts0 x6a.lt
 go_wp2_with fail
 clear cx5aa cx5ab cx5ac lx5aa lx5ab lx5ac lx5ad cx6aa fx6aa cx6ab fx6ab cx6ac fx6ac lx6aa lx6ab lx6ac lx6ad
 have p12 := ((((Kp.refl w11).sb w5.heap.size 0 x6a.box (by decide) (.bool b11)).sb w5.heap.size 1 (x6a.box.set ⟨w5.heap.size, 0, none⟩ (.bool b11)) (by decide) (.slice A11 n11 c11)).sb w5.heap.size 2 ((x6a.box.set ⟨w5.heap.size, 0, none⟩ (.bool b11)).set ⟨w5.heap.size, 1, none⟩ (.slice A11 n11 c11)) (by decide) (.slice A'11 n'11 c'11))
 have bw12 := (((bw11.sc w5.heap.size 0 (by omega) (.bool b11)).sc w5.heap.size 1 (by omega) (.slice A11 n11 c11)).sc w5.heap.size 2 (by omega) (.slice A'11 n'11 c'11))
 replace x5a := (((x5a.fr w5.heap.size 0 (by omega) (.bool b11)).fr w5.heap.size 1 (by omega) (.slice A11 n11 c11)).fr w5.heap.size 2 (by omega) (.slice A'11 n'11 c'11))
 replace x6a := (((x6a.set_at 0 (.bool b11) #[.bool b11, .slice A5 n5 c5, .slice A'5 n'5 c'5] (by simp)).set_at 1 (.slice A11 n11 c11) #[.bool b11, .slice A11 n11 c11, .slice A'5 n'5 c'5] (by simp)).set_at 2 (.slice A'11 n'11 c'11) #[.bool b11, .slice A11 n11 c11, .slice A'11 n'11 c'11] (by simp))
 have lw12 : w11.heap.size + 0 ≤ (((w11.setCell ⟨w5.heap.size, 0, none⟩ (.bool b11)).setCell ⟨w5.heap.size, 1, none⟩ (.slice A11 n11 c11)).setCell ⟨w5.heap.size, 2, none⟩ (.slice A'11 n'11 c'11)).heap.size := by simp
 generalize hE12 : (((w11.setCell ⟨w5.heap.size, 0, none⟩ (.bool b11)).setCell ⟨w5.heap.size, 1, none⟩ (.slice A11 n11 c11)).setCell ⟨w5.heap.size, 2, none⟩ (.slice A'11 n'11 c'11)) = w12 at p12 bw12 lw12 x5a x6a ⊢
 clear hE12
 replace h4 := h4.keep p12
 replace h5 := h5.keep p12
 replace h7 := h7.keep p12
 replace h11 := h11.keep p12
 clear bw11
 (with_reducible refine (b_rat_v9 _ b11 A11 n11 c11 A'11 n'11 c'11 (v2) (130) ?_ b7 A7 n7 c7 A'7 n'7 c'7 (v2) (2) ?_ rfl (by decide)).mono ?_); (exact h11); (exact h7); rintro e w13 ⟨rfl, q13⟩
 replace h4 := h4.belw q13
 replace h5 := h5.belw q13
 replace h7 := h7.belw q13
 replace h11 := h11.belw q13
 replace x5a := x5a.b q13
 replace x6a := x6a.b q13
 have bw13 := bw12.trans (q13.mono bw12.size)
 have lw13 := q13.size
 clear q13 bw12
 go_wp2_with fail
 go_ret
 exact retB rfl bw13
end Go.Proofs.YtfbigmdpdcpkfaaGreatDoor

/- TokenNumbers: a quotient and a decimal fraction have their values; for every input the law returns true. The listed library variables are tied to the program text. -/
namespace Go.Proofs.YtfbigmdpdcpkfaaGreatDoor
open Go Go.RowKit Bn Go.ChangeShapes Go.WideShapes Go.ChangeAt
theorem numbers_contract (H : Type) (enc : TypeId × Value → H) (W : World) (base : Nat) (args : Array Value) (ds gs : List (DataW H)) (before : List MemPlace)
    (hval0 : ∀ (j : Nat) t v, Tryz.f7.params[j]? = some t → args[j]? = some v → Value.okWide Tryz.prog W .any base t v)
    (hW : DataW.Whole enc Tryz.prog Tryz.f7.params.toList Rows.tokenNumbersSpec.vars false W args.toList ds gs before) (hL : laidMetH Tryz.prog Rows.tokenNumbersRow.laid W) (hsh : W.ShapedOpen Tryz.prog) :
    Calls Tryz.prog 7 args W fun e W' => ∃ v, e = .returned v ∧ Rows.tokenNumbersSpec.post enc Tryz.prog Tryz.f7 false true false false W args v W' := by
  have hval : ∀ (j : Nat) t v, Tryz.f7.params[j]? = some t → args[j]? = some v → Value.okWide Tryz.prog W .any base t v := hval0
  have htab : Tab W := tab_of_laid hL
  have hmx : Mx W := mx_of_shaped hsh
  have hW' := hW
  obtain ⟨p, q, hA0, hV, rfl, hfz, hnd⟩ := hW
  have hA : DataW.TrodAll enc Tryz.prog W 0 (fun _ => true) true Tryz.f7.params.toList args.toList ds p := hA0
  rw [Tryz.params7] at hA hval
  obtain ⟨v0, v1, v2, d0, d1, d2, p0, p1, p2, rfl, rfl, rfl, h0, h1, h2⟩ := trodAll_three hA
  obtain ⟨rfl, rfl⟩ := trodVars_none hV
  obtain ⟨xi16, rfl, rfl, rfl, hxi16⟩ := open_int Tryz.underlying45 (hval 0 _ v0 rfl rfl) h0
  obtain ⟨xi16', rfl, rfl, rfl, hxi16'⟩ := open_int Tryz.underlying45 (hval 1 _ v1 rfl rfl) h1
  obtain ⟨xu16, rfl, rfl, rfl, hxu16⟩ := open_int Tryz.underlying46 (hval 2 _ v2 rfl rfl) h2
  refine (l_TokenNumbers W xi16 (wfi16 hxi16) xi16' (wfi16 hxi16') xu16 (wfu16 hxu16) htab hmx).mono fun e W' ⟨he, hb⟩ => ?_
  subst he
  exact ⟨_, rfl, law_post laid_out Tryz.underlying4 hW' rfl rfl (by kernel_rfl) rfl rfl rfl hb⟩
theorem numbers_lifted (os : Os) (started : os.Started) (H : Type) (enc : TypeId × Value → H) (F : Stop.Interp) :
    ReturnsInHanded {} Tryz.checked os 7 .any ((OpenSpec.ofChange Rows.tokenNumbersSpec).preRow enc Tryz.prog Tryz.f7 Rows.tokenNumbersRow.domain false Rows.tokenNumbersRow.laid) (((OpenSpec.ofChange Rows.tokenNumbersSpec).at F).post enc Tryz.prog Tryz.f7 false true false false) := by
  have hx : DataW.whole enc Tryz.prog ((laidWorld os).forCall (fun _ _ => 0) ⟨#[], #[.int .i16 0, .int .i16 0, .int .u16 0], []⟩).memory Tryz.f7.params.toList Rows.tokenNumbersSpec.vars false (#[.int .i16 0, .int .i16 0, .int .u16 0] : Array Value).toList 8 = some ([.lit (.int .i16 0), .lit (.int .i16 0), .lit (.int .u16 0)], [], []) := by kernel_rfl
  have hl : laidMet Tryz.prog Rows.tokenNumbersRow.laid ((laidWorld os).forCall (fun _ _ => 0) ⟨#[], #[.int .i16 0, .int .i16 0, .int .u16 0], []⟩).memory := laidMet_of_run' 8 (by kernel_rfl) (by kernel_rfl)
  refine returnsInHanded_of_row (C := Tryz.checked) (s := OpenSpec.ofChange Rows.tokenNumbersSpec) own_knob started (by kernel_rfl) Tryz.func7
    (witness_row_at (enc := enc) (C := Tryz.checked) false (laidWorld os) #[.int .i16 0, .int .i16 0, .int .u16 0] rfl (by kernel_rfl) (by kernel_rfl) (by kernel_rfl)
      (OpenSpec.preRow_of_cond 8 hx (by kernel_rfl) (fun k hk => by cases hk) (by kernel_rfl) hl)) ?_
  intro W base args ds gs before hval hW _ _ _ hL hsh _
  exact numbers_contract H enc W base args ds gs before hval hW hL hsh
theorem numbers_j2 : (Rows.tokenNumbersRow.inPlace == Tryz.pinned.checked.prog.inPlace 7) = true := by kernel_rfl
theorem numbers_j3 : (Rows.tokenNumbersRow.unfollowed == Tryz.pinned.checked.prog.unfollowed 7) = true := by kernel_rfl
theorem numbers_j4 : (Rows.tokenNumbersRow.recurses == Tryz.pinned.checked.prog.recurses 7) = true := by kernel_rfl
theorem numbers_j5 : (Rows.tokenNumbersRow.named == Tryz.pinned.checked.prog.varsNamed 7) = true := by kernel_rfl
theorem numbers_joined : joinedFacts Tryz.pinned.checked.prog 7 Tryz.f7 (OpenSpec.ofChange Rows.tokenNumbersSpec).bare Rows.tokenNumbersRow = true := joined_parts (by kernel_rfl) numbers_j2 numbers_j3 numbers_j4 numbers_j5 (by kernel_rfl)
theorem numbers_inst : Tryz.f7.isInstance Tryz.pinned.checked.prog Rows.tokenNumbersRow.origin Rows.tokenNumbersRow.targs := of_decide_eq_true (by kernel_rfl)
theorem numbers_said : Rows.TokenNumbersSaid :=
  OpenClaim.holds_of_cond 7 Tryz.f7 rfl rfl rfl rfl rfl rfl rfl ⟨rfl, rfl, rfl, rfl, rfl⟩ rfl rfl rfl rfl rfl (by kernel_rfl) Tryz.func7 numbers_joined
    numbers_inst (by unfold Func.isWrapper; first | (rw [if_pos (by decide +kernel)]; kernel_rfl) | (rw [if_neg (by decide +kernel)]; exact ⟨rfl, rfl⟩))
    (fun os started H enc _ F => by rw [OpenClaim.pre_eq_preRow]; exact numbers_lifted os started H enc F)
theorem numbers_plain (f : FuncId) (fn : Func) (hf : Tryz.pinned.checked.prog.funcNamed "linkwork/linkworklaw18.TokenNumbers" = some f) (hfn : Tryz.pinned.checked.prog.funcs[f]? = some fn) :
    true = Tryz.pinned.checked.prog.looks [] ∧ ∀ (j : Nat) t, fn.params[j]? = some t → Tryz.pinned.checked.prog.wantsStandIn t = false := by
  obtain rfl : f = 7 := Option.some.inj ((show Tryz.prog.funcNamed "linkwork/linkworklaw18.TokenNumbers" = some 7 by kernel_rfl).symm.trans hf) |>.symm
  obtain rfl : fn = Tryz.f7 := (Option.some.inj (Tryz.func7.symm.trans hfn)).symm
  refine ⟨by kernel_rfl, fun j t ht => ?_⟩
  rw [Tryz.params7] at ht
  have hm : t ∈ [45, 46] := by
    have := Array.mem_of_getElem? ht
    simp at this ⊢
    first
      | exact this
      | exact .inl this
  have hall : ([45, 46].all fun u => !Tryz.prog.wantsStandIn u) = true := by kernel_rfl
  exact (show Tryz.prog.wantsStandIn t = false by simpa using List.all_eq_true.1 hall t hm)
theorem numbers_holds : Rows.TokenNumbersCardSaid :=
  Claim7.holds_tied_plain_at .later [] _ _ _ _ numbers_said (fun _ h => by cases h) (by kernel_rfl) (fun _ h => by cases h) tokenNumbers_row_tie rfl ⟨rfl, rfl⟩ (by kernel_rfl) rfl numbers_plain (by kernel_rfl)
end Go.Proofs.YtfbigmdpdcpkfaaGreatDoor
