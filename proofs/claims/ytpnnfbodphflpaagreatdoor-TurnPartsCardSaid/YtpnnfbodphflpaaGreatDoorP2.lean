/- Part P2: lemmas and walks that the claim rests on. No claim is made here. -/
import Derived.Deep.RegionHeld3
import Derived.Deep.DrawnRows
import Derived.IntWalk
import Derived.Test.YtpnnfbodphflpaaGreatDoorProg
import Derived.WalkKit
import Derived.WalkSpells
import Derived.WalkLawsBesides
import Derived.BigQuiet
import Derived.Deep.QuietTactic
import Derived.Deep.AppendLies
import Derived.Lib.Hide
import Derived.Lib.AppendIntMem
import Derived.Laws.OwnMore
import Derived.Test.YtpnnfbodphflpaaGreatDoorP1
set_option linter.unusedVariables false
/- One step of the long division, in plain numbers. -/
namespace Bn
theorem Sm_add (f : Nat → Nat) (j t : Nat) : Sm f (j + t) = Sm f j + 4294967296 ^ j * Sm (fun i => f (j + i)) t := by
  induction t with
  | zero => simp [Sm]
  | succ t ih =>
    rw [← Nat.add_assoc, Sm, ih, Sm, Nat.mul_add, Nat.pow_add]
    have : f (j + t) * (4294967296 ^ j * 4294967296 ^ t) = 4294967296 ^ j * (f (j + t) * 4294967296 ^ t) := by rw [Nat.mul_left_comm]
    omega
/-- The words of a window. -/
def wn (L : List Nat) (off : Nat) (i : Nat) : Nat := wd L (off + i)
/-- A list that differs only in the window from off on, of n words. -/
def Win (L L' : List Nat) (off n : Nat) : Prop := L'.length = L.length ∧ Wds L' ∧ ∀ j, j < off ∨ off + n ≤ j → wd L' j = wd L j
theorem Sm_high {L : List Nat} {N : Nat} (h : val L < 4294967296 ^ N) : Sm (wd L) N = val L ∧ ∀ j, N ≤ j → wd L j = 0 := by
  have key : ∀ M, N ≤ M → Sm (wd L) M = Sm (wd L) N → Sm (wd L) (M + 1) = Sm (wd L) N ∧ wd L M = 0 := by
    intro M hM hE
    have h1 : Sm (wd L) (M + 1) ≤ val L := by
      rw [← Sm_ge L (Nat.le_max_left L.length (M + 1))]
      exact Sm_mono_len _ (Nat.le_max_right _ _)
    rw [Sm, hE] at h1
    have h2 : 4294967296 ^ N ≤ 4294967296 ^ M := Nat.pow_le_pow_right (by omega) hM
    have h3 : wd L M = 0 := by
      rcases Nat.eq_zero_or_pos (wd L M) with h3 | h3
      · exact h3
      · have : 1 * 4294967296 ^ M ≤ wd L M * 4294967296 ^ M := Nat.mul_le_mul_right _ h3
        omega
    refine ⟨?_, h3⟩
    rw [Sm, hE, h3]; simp
  have all : ∀ d, Sm (wd L) (N + d) = Sm (wd L) N := by
    intro d
    induction d with
    | zero => rfl
    | succ d ih => rw [← Nat.add_assoc]; exact (key (N + d) (by omega) ih).1
  refine ⟨?_, fun j hj => ?_⟩
  · have := all L.length
    rw [Sm_ge L (by omega)] at this
    exact this.symm
  · have := (key j hj (by have := all (j - N); rwa [show N + (j - N) = j by omega] at this)).2
    exact this
/-- The value, cut at a window above which there is nothing. -/
theorem val_window {L : List Nat} {j t : Nat} (h : val L < 4294967296 ^ (j + t)) : val L = Sm (wd L) j + 4294967296 ^ j * Sm (wn L j) t := by
  rw [← (Sm_high h).1, Sm_add]; rfl
theorem val_window' {L L' : List Nat} {j t : Nat} (h : val L < 4294967296 ^ (j + t)) (hw : Win L L' j t) : val L' = Sm (wd L) j + 4294967296 ^ j * Sm (wn L' j) t := by
  have h1 : Sm (wd L') j = Sm (wd L) j := Sm_congr fun i hi => hw.2.2 i (.inl hi)
  have h2 : Sm (wd L') (j + t) = val L' := by
    have hz : ∀ i, j + t ≤ i → wd L' i = 0 := fun i hi => by rw [hw.2.2 i (.inr hi)]; exact (Sm_high h).2 i hi
    have : ∀ d, Sm (wd L') (j + t + d) = Sm (wd L') (j + t) := by
      intro d
      induction d with
      | zero => rfl
      | succ d ih => rw [← Nat.add_assoc, Sm, hz _ (by omega), ih]; simp
    have h3 := this L'.length
    rw [Sm_ge L' (by omega)] at h3
    exact h3.symm
  rw [← h2, Sm_add, h1]; rfl
theorem Win.trans {A B C : List Nat} {j t : Nat} (h : Win A B j t) (k : Win B C j t) : Win A C j t :=
  ⟨k.1.trans h.1, k.2.1, fun i hi => (k.2.2 i hi).trans (h.2.2 i hi)⟩

/-- The leading words. -/
theorem Sm_two (f : Nat → Nat) (nn : Nat) : Sm f (nn + 2) = f (nn + 1) * (4294967296 ^ nn * 4294967296) + f nn * 4294967296 ^ nn + Sm f nn := by
  rw [Sm, Sm, Nat.pow_succ]; omega
theorem Sm_three (f : Nat → Nat) (nn : Nat) : Sm f (nn + 3) = (f (nn + 2) * 4294967296 + f (nn + 1)) * (4294967296 ^ nn * 4294967296) + f nn * 4294967296 ^ nn + Sm f nn := by
  rw [Sm, Sm_two, Nat.pow_succ, Nat.pow_succ, Nat.add_mul]
  have : f (nn + 2) * (4294967296 ^ nn * 4294967296 * 4294967296) = f (nn + 2) * 4294967296 * (4294967296 ^ nn * 4294967296) := by
    rw [Nat.mul_assoc (f (nn + 2)), Nat.mul_comm 4294967296 (4294967296 ^ nn * 4294967296)]
  omega
/-- The two leading words of the window against the divisor's leading word. -/
theorem head_lt {head D third top lowv V P : Nat} (hP : P = head * (D * 4294967296) + third) (hV : V = top * (D * 4294967296) + lowv) (hl : lowv < D * 4294967296) (hlt : P < V * 4294967296) : head < (top + 1) * 4294967296 := by
  have h1 : V < (top + 1) * (D * 4294967296) := by rw [Nat.add_mul]; omega
  have h2 : V * 4294967296 ≤ (top + 1) * (D * 4294967296) * 4294967296 := Nat.mul_le_mul_right _ (Nat.le_of_lt h1)
  have h3 : head * (D * 4294967296) < (top + 1) * 4294967296 * (D * 4294967296) := by
    have : (top + 1) * (D * 4294967296) * 4294967296 = (top + 1) * 4294967296 * (D * 4294967296) := by rw [Nat.mul_assoc, Nat.mul_comm (D * 4294967296), ← Nat.mul_assoc]
    omega
  exact Nat.lt_of_mul_lt_mul_right h3
theorem guess_le {head top : Nat} (h : head < (top + 1) * 4294967296) (ht : 2147483648 ≤ top) : head / top ≤ 4294967298 := by
  have : head / top < 4294967299 := by
    rw [Nat.div_lt_iff_lt_mul (by omega)]
    rw [Nat.add_mul] at h
    have : 4294967299 * top = top * 4294967296 + 3 * top := by omega
    omega
  omega
/-- What is taken away, and given back if it was too much. -/
theorem step_zero {P P1 g V q : Nat} (hV : 0 < V) (hq : q = P / V) (hle : q ≤ g) (h : P1 + g * V = P) : g = q ∧ P1 = P % V := by
  have h1 : g * V ≤ P := by omega
  have h2 : g ≤ P / V := (Nat.le_div_iff_mul_le hV).2 h1
  have h3 : g = q := by omega
  refine ⟨h3, ?_⟩
  have h4 := Nat.div_add_mod P V
  rw [h3, hq, Nat.mul_comm] at h
  omega
theorem step_one {P P1 P2 g V q T c : Nat} (hV : 0 < V) (hq : q = P / V) (hub : g ≤ q + 1) (hP1 : P1 < T) (h : P1 + g * V = P + 1 * T) (h2 : P2 + c * T = P1 + V) (hc : c ≤ 1) (hP2 : P2 < T) : g = q + 1 ∧ P2 = P % V := by
  have h0 := Nat.div_add_mod P V
  have hm := Nat.mod_lt P hV
  rw [← hq] at h0
  have h1 : q < g := by
    rcases Nat.lt_or_ge q g with h1 | h1
    · exact h1
    · have : g * V ≤ q * V := Nat.mul_le_mul_right _ h1
      rw [Nat.mul_comm V q] at h0
      omega
  have hg : g = q + 1 := by omega
  refine ⟨hg, ?_⟩
  rw [hg, Nat.add_mul] at h
  rw [Nat.mul_comm V q] at h0
  rcases (show c = 0 ∨ c = 1 by omega) with rfl | rfl
  · omega
  · omega
/-- The division goes on. -/
theorem div_go {U0 V vq vu low Bj P q vu2 : Nat} (h : vu + V * vq = U0) (hvu : vu = low + Bj * P) (hvu2 : vu2 = low + Bj * (P % V)) (hq : q = P / V) (hlow : low < Bj) (hV : 0 < V) : vu2 + V * (vq + q * Bj) = U0 ∧ vu2 < V * Bj := by
  have h0 := Nat.div_add_mod P V
  have hm := Nat.mod_lt P hV
  subst hq
  constructor
  · rw [hvu2, ← h, hvu, Nat.mul_add]
    have : Bj * P = Bj * (P % V) + V * (P / V * Bj) := by
      conv => lhs; rw [← h0]
      rw [Nat.mul_add, Nat.mul_comm (P / V), ← Nat.mul_assoc V, Nat.mul_comm V Bj, Nat.mul_assoc]
      omega
    omega
  · rw [hvu2]
    have : Bj * (P % V + 1) ≤ Bj * V := Nat.mul_le_mul_left _ hm
    rw [Nat.mul_add] at this
    rw [Nat.mul_comm V]
    omega
theorem window_lt {U low Bj P V : Nat} (hU : U = low + Bj * P) (h : U < V * (Bj * 4294967296)) : P < V * 4294967296 := by
  have h1 : Bj * P < Bj * (V * 4294967296) := by
    have : V * (Bj * 4294967296) = Bj * (V * 4294967296) := by rw [Nat.mul_left_comm]
    omega
  exact Nat.lt_of_mul_lt_mul_left h1
/-- The quotient and the rest of the shifted numbers are those of the numbers. -/
theorem div_shift {a b q r s : Nat} (hs : 0 < s) (hb : 0 < b) (h : r + b * s * q = a * s) (hr : r < b * s) : q = a / b ∧ r / s = a % b := by
  have h1 : a * s / (b * s) = q := by
    rw [← h, Nat.add_comm, Nat.mul_add_div (Nat.mul_pos hb hs), Nat.div_eq_of_lt hr]; rfl
  have h2 : a * s % (b * s) = r := by
    rw [← h, Nat.add_comm, Nat.mul_add_mod, Nat.mod_eq_of_lt hr]
  rw [Nat.mul_div_mul_right _ _ hs] at h1
  rw [Nat.mul_mod_mul_right] at h2
  refine ⟨h1.symm, ?_⟩
  rw [← h2, Nat.mul_div_cancel _ hs]
end Bn
namespace Bn
theorem wd_take {l : List Nat} {k i : Nat} (h : i < k) : wd (l.take k) i = wd l i := by
  simp [wd, List.getD, h]
/-- The divisor, shifted so that its leading word is great. -/
theorem norm_top {l' Lv : List Nat} {nn m t0 : Nat} (hc : Wds l') (hlen : l'.length = nn + 2) (ht0 : wd l' (nn + 1) = t0) (hm1 : 2147483648 ≤ t0 * 2 ^ m) (hm2 : (t0 + 1) * 2 ^ m ≤ 4294967296) (hLv : Lv.length = nn + 3) (hW : Wds Lv) (hv : val Lv = val l' * 2 ^ m) :
    val (Lv.take (nn + 2)) = val l' * 2 ^ m ∧ 2147483648 ≤ wd Lv (nn + 1) := by
  have hS : val l' = Sm (wd l') (nn + 2) := by rw [val_eq_Sm, hlen]
  have hlow : Sm (wd l') (nn + 1) < 4294967296 ^ (nn + 1) := Sm_lt (fun i _ => wd_lt hc i)
  rw [Sm, ht0] at hS
  have hub : val l' * 2 ^ m < 4294967296 ^ (nn + 2) := by
    have h1 : val l' < (t0 + 1) * 4294967296 ^ (nn + 1) := by rw [Nat.add_mul]; omega
    have h2 : val l' * 2 ^ m < (t0 + 1) * 4294967296 ^ (nn + 1) * 2 ^ m := Nat.mul_lt_mul_of_pos_right h1 (Nat.pow_pos (by omega))
    have h3 : (t0 + 1) * 4294967296 ^ (nn + 1) * 2 ^ m = (t0 + 1) * 2 ^ m * 4294967296 ^ (nn + 1) := by rw [Nat.mul_assoc, Nat.mul_comm (4294967296 ^ (nn + 1)), ← Nat.mul_assoc]
    have h4 : (t0 + 1) * 2 ^ m * 4294967296 ^ (nn + 1) ≤ 4294967296 * 4294967296 ^ (nn + 1) := Nat.mul_le_mul_right _ hm2
    have h5 : 4294967296 * 4294967296 ^ (nn + 1) = 4294967296 ^ (nn + 2) := by rw [Nat.mul_comm, ← Nat.pow_succ]
    omega
  have hh := Sm_high (L := Lv) (N := nn + 2) (by rw [hv]; exact hub)
  have htake : val (Lv.take (nn + 2)) = val l' * 2 ^ m := by
    have hl : (Lv.take (nn + 2)).length = nn + 2 := by rw [List.length_take]; omega
    rw [val_eq_Sm, hl, ← hv, ← hh.1]
    exact Sm_congr fun i hi => wd_take hi
  refine ⟨htake, ?_⟩
  have h6 : Sm (wd Lv) (nn + 1) < 4294967296 ^ (nn + 1) := Sm_lt (fun i _ => wd_lt hW i)
  have h7 := hh.1
  rw [Sm, hv] at h7
  rcases Nat.lt_or_ge (wd Lv (nn + 1)) 2147483648 with h8 | h8
  · exfalso
    have h9 : (wd Lv (nn + 1) + 1) * 4294967296 ^ (nn + 1) ≤ 2147483648 * 4294967296 ^ (nn + 1) := Nat.mul_le_mul_right _ h8
    rw [Nat.add_mul] at h9
    have h10 : 2147483648 * 4294967296 ^ (nn + 1) ≤ t0 * 2 ^ m * 4294967296 ^ (nn + 1) := Nat.mul_le_mul_right _ hm1
    have h11 : t0 * 2 ^ m * 4294967296 ^ (nn + 1) ≤ val l' * 2 ^ m := by
      have : t0 * 4294967296 ^ (nn + 1) * 2 ^ m ≤ val l' * 2 ^ m := Nat.mul_le_mul_right _ (by omega)
      have e : t0 * 2 ^ m * 4294967296 ^ (nn + 1) = t0 * 4294967296 ^ (nn + 1) * 2 ^ m := by rw [Nat.mul_assoc, Nat.mul_comm (2 ^ m), ← Nat.mul_assoc]
      omega
    omega
  · exact h8
/-- How far to shift. -/
theorem clz_bounds {x k m : Nat} (hk : k + m = 31) (h1 : 2 ^ k ≤ x) (h2 : x < 2 ^ (k + 1)) : 2147483648 ≤ x * 2 ^ m ∧ (x + 1) * 2 ^ m ≤ 4294967296 := by
  have e1 : 2 ^ k * 2 ^ m = 2147483648 := by rw [← Nat.pow_add, hk]
  have e2 : 2 ^ (k + 1) * 2 ^ m = 4294967296 := by rw [← Nat.pow_add, show k + 1 + m = 32 by omega]
  have h3 : 2 ^ k * 2 ^ m ≤ x * 2 ^ m := Nat.mul_le_mul_right _ h1
  have h4 : (x + 1) * 2 ^ m ≤ 2 ^ (k + 1) * 2 ^ m := Nat.mul_le_mul_right _ h2
  omega
end Bn
namespace Bn
theorem div_setup {L lv : List Nat} {V nn k pa pb pc top next : Nat} (hWL : Wds L) (hWv : Wds lv) (hlen : lv.length = nn + 2) (hV : val lv = V) (hk : 0 < k) (hlt : val L < V * 4294967296 ^ k)
    (hpa : wd L (k - 1 + (nn + 2)) = pa) (hpb : wd L (k - 1 + (nn + 1)) = pb) (hpc : wd L (k - 1 + nn) = pc) (htop : wd lv (nn + 1) = top) (hnext : wd lv nn = next) :
    ∃ lowp lowv, Sm (wn L (k - 1)) (nn + 3) = (pa * 4294967296 + pb) * (4294967296 ^ nn * 4294967296) + pc * 4294967296 ^ nn + lowp ∧ lowp < 4294967296 ^ nn ∧ V = top * (4294967296 ^ nn * 4294967296) + next * 4294967296 ^ nn + lowv ∧ lowv < 4294967296 ^ nn ∧
      Sm (wn L (k - 1)) (nn + 3) < V * 4294967296 ∧ val L = Sm (wd L) (k - 1) + 4294967296 ^ (k - 1) * Sm (wn L (k - 1)) (nn + 3) ∧ val L < 4294967296 ^ (k - 1 + (nn + 3)) := by
  have hVb : V < 4294967296 ^ (nn + 2) := by rw [← hV, ← hlen]; exact val_lt hWv
  have hLb : val L < 4294967296 ^ (k - 1 + (nn + 3)) := by
    have h1 : V * 4294967296 ^ k ≤ 4294967296 ^ (nn + 2) * 4294967296 ^ k := Nat.mul_le_mul_right _ (Nat.le_of_lt hVb)
    rw [← Nat.pow_add, show nn + 2 + k = k - 1 + (nn + 3) by omega] at h1
    omega
  have hw := val_window hLb
  refine ⟨Sm (wn L (k - 1)) nn, Sm (wd lv) nn, ?_, Sm_lt fun i _ => wd_lt hWL _, ?_, Sm_lt fun i _ => wd_lt hWv _, ?_, hw, hLb⟩
  · rw [Sm_three]; unfold wn; rw [hpa, hpb, hpc]
  · rw [← hV, val_eq_Sm, hlen, Sm_two, htop, hnext]
  · apply window_lt (Bj := 4294967296 ^ (k - 1)) hw
    have : 4294967296 ^ k = 4294967296 ^ (k - 1) * 4294967296 := by rw [← Nat.pow_succ]; congr 1; omega
    rw [← this]; exact hlt
/-- The inner loop goes on only while the guess is too great. -/
theorem inner_cont {P V D hd pc lowp top next lowv g r : Nat} (hP : P = hd * (D * 4294967296) + pc * D + lowp) (hlp : lowp < D) (hV : V = top * (D * 4294967296) + next * D + lowv) (hVp : 0 < V) (hPV : P < V * 4294967296) (hg : g * top + r = hd)
    (h : 4294967296 ≤ g ∨ r * 4294967296 + pc < g * next) : P / V < g := by
  have hq : P / V * V ≤ P := Nat.div_mul_le_self _ _
  rcases h with h | h
  · have : P / V < 4294967296 := by rw [Nat.div_lt_iff_lt_mul hVp, Nat.mul_comm]; exact hPV
    omega
  · exact knuth_gt (third := 0) hP hlp hV hg hq h
theorem inner_exit {P V D hd pc lowp top next lowv g r : Nat} (hP : P = hd * (D * 4294967296) + pc * D + lowp) (hV : V = top * (D * 4294967296) + next * D + lowv) (hlv : lowv < D) (hVp : 0 < V) (htop : 0 < top) (hnext : next < 4294967296) (hhd : hd < (top + 1) * 4294967296) (hg : g * top + r = hd)
    (h : 4294967296 ≤ r ∨ (g < 4294967296 ∧ g * next ≤ r * 4294967296 + pc)) : g < 4294967296 ∧ g ≤ P / V + 1 := by
  have hgB : g < 4294967296 := by
    rcases h with h | h
    · rcases Nat.lt_or_ge g 4294967296 with h1 | h1
      · exact h1
      · have := knuth_small hhd hg h1; omega
    · exact h.1
  refine ⟨hgB, ?_⟩
  have hq : P < (P / V + 1) * V := by
    have h0 := Nat.div_add_mod P V
    have hm := Nat.mod_lt P hVp
    rw [Nat.add_mul, Nat.mul_comm (P / V)]; omega
  exact knuth_ub hP hV hlv hg hq htop (by omega) hnext (h.imp id fun h => h.2)
theorem inner_start {P V D hd pc lowp top next lowv pb : Nat} (hP : P = hd * (D * 4294967296) + pc * D + lowp) (hlp : lowp < D) (hpc : pc < 4294967296) (hV : V = top * (D * 4294967296) + next * D + lowv) (htop : 0 < top) : P / V ≤ hd / top := by
  have _ := pb
  have hq : P / V * V ≤ P := Nat.div_mul_le_self _ _
  refine knuth_le (D := D * 4294967296) (third := pc * D + lowp) (low := next * D + lowv) (v := V) (head := hd) (P := P) (by omega) ?_ (by omega) hq htop
  have h1 : (pc + 1) * D ≤ 4294967296 * D := Nat.mul_le_mul_right _ hpc
  rw [Nat.add_mul, Nat.mul_comm 4294967296] at h1
  omega
end Bn

/- Walks: a multiple taken from a window of words, and added back, in place. -/
namespace Go.Proofs.YtpnnfbodphflpaaGreatDoor
open Go Go.RowKit Bn

/-- Words that lie in another block than the one that is written. -/
theorem Wd.keepG {w w' : World} {A : Option Addr} {n c g : Nat} {l : List Nat} (h : Wd w A n c l) (hne : ∀ a, A = some a → a.block ≠ g) (hg : w.grownBy w' (some g)) : Wd w' A n c l :=
  ⟨h.1, h.2.1, h.2.2.1, fun hn => by
    obtain ⟨g', o, cur, fr, e, hb, hc⟩ := h.2.2.2 hn
    refine ⟨g', o, cur, fr, e, ?_, hc⟩
    exact hb.same (hg.block g' hb.lt (by intro e2; injection e2 with e2; exact hne _ e e2))⟩
theorem only_refl (w : World) (row : Option Nat) : w.grownBy w row := ⟨rfl, rfl, rfl, Nat.le_refl _, fun _ _ _ => rfl⟩
theorem only_drewN {a w : World} {row : Option Nat} (h : a.grownBy w row) (n : Nat) : a.grownBy (w.drewN n) row := ⟨h.os, h.tape, h.output, h.size, h.block⟩
theorem only_drew {a w : World} {row : Option Nat} (h : a.grownBy w row) : a.grownBy w.drew row := ⟨h.os, h.tape, h.output, h.size, h.block⟩
theorem only_set {a w : World} {g : Nat} (h : a.grownBy w (some g)) (i : Nat) (u : Value) : a.grownBy (w.setCell ⟨g, i, none⟩ u) (some g) :=
  ⟨h.os, h.tape, h.output, by simpa [World.setCell] using h.size, fun i' hi hne => (Below.heap_setCell w _ u i' (by
    rintro rfl
    exact hne rfl)).trans (h.block i' hi hne)⟩

theorem remove_word {x y cr br q : Nat} (hx : x < 4294967296) (hy : y < 4294967296) (hc : cr < 4294967296) (hq : q < 4294967296) (hbr : br ≤ 1) {p s d1 d2 : Int} (h1 : IntKind.u64.wrap ((q : Int) * (y : Int)) = p) (h2 : IntKind.u64.wrap ((cr : Int) + p) = s)
    (h3 : IntKind.u64.wrap ((x : Int) - s % 4294967296) = d1) (h4 : IntKind.u64.wrap (d1 - (br : Int)) = d2) :
    ∃ c' b' lo : Nat, c' < 4294967296 ∧ b' ≤ 1 ∧ lo < 4294967296 ∧ s / 4294967296 = (c' : Int) ∧ d2 / 9223372036854775808 = (b' : Int) ∧ d2 % 4294967296 = (lo : Int) ∧ lo + q * y + br + cr = x + (c' + b') * 4294967296 ∧ (y = 0 → c' = 0) := by
  have hy0 : y = 0 → q * y = 0 := by rintro rfl; rfl
  rw [IntKind.wrap_u64] at h1 h2
  have hxy : q * y ≤ 4294967295 * 4294967295 := Nat.mul_le_mul (by omega) (by omega)
  have e : (q : Int) * (y : Int) = ((q * y : Nat) : Int) := by simp
  rw [e] at h1
  generalize q * y = z at *
  have hs : s = ((cr + z : Nat) : Int) := by omega
  subst hs
  have e2 : (((cr + z : Nat) : Int)) % 4294967296 = (((cr + z) % 4294967296 : Nat) : Int) := by omega
  rw [e2] at h3
  obtain ⟨b', lo, hb', hlo, e63, e32, hh⟩ := less_word hx (Nat.mod_lt (cr + z) (by omega)) hbr h3 h4
  exact ⟨(cr + z) / 4294967296, b', lo, by omega, hb', hlo, by omega, e63, e32, by omega, fun h => by rw [hy0 h]; omega⟩

def RemI (L L' l' : List Nat) (off nu q k cr br : Nat) : Prop := Win L L' off nu ∧ ((∀ j, off + k ≤ j → wd L' j = wd L j) ∧ (l'.length < k → cr = 0)) ∧ Sm (wn L' off) k + q * Sm (wd l') k = Sm (wn L off) k + (cr + br) * 4294967296 ^ k
theorem rem_fin {SU' qSv SU crbr x lo q y br cr c' b' P PB : Nat} (h : SU' + qSv = SU + crbr * P) (e : crbr = cr + br) (hl : lo + q * y + br + cr = x + (c' + b') * 4294967296) (hP : PB = P * 4294967296) : SU' + lo * P + (qSv + q * y * P) = SU + x * P + (c' + b') * PB := by
  subst e; subst hP
  have h1 : (lo + q * y + br + cr) * P = (x + (c' + b') * 4294967296) * P := by rw [hl]
  have h2 : (c' + b') * (P * 4294967296) = (c' + b') * 4294967296 * P := by rw [Nat.mul_comm P, Nat.mul_assoc]
  rw [Nat.add_mul, Nat.add_mul, Nat.add_mul, Nat.add_mul] at h1
  rw [Nat.add_mul] at h
  rw [h2]; omega
set_option maxHeartbeats 1000000 in
/-- integer.remove -/
theorem remove_c (w : World) (gu off nu cu : Nat) (L : List Nat) (hBl : Blk w gu 84 (cellsOf L)) (hWL : Wds L) (hoff : off + nu ≤ L.length) (hnu : nu ≤ 4398046511104)
    (A' : Option Addr) (n' c' : Nat) (l' : List Nat) (wb : Wd w A' n' c' l') (hne : ∀ a, A' = some a → a.block ≠ gu) (hlt : n' < nu) (q : Nat) (hq : q < 4294967296) :
    Calls Tryz.prog 137 #[.slice (some ⟨gu, off, none⟩) nu cu, .slice A' n' c', .int .u64 (q : Nat)] w fun e w' => ∃ (L' : List Nat) (b : Nat), b ≤ 1 ∧ e = .returned (.bool (b == 1)) ∧ Blk w' gu 84 (cellsOf L') ∧ Win L L' off nu ∧ Sm (wn L' off) nu + q * val l' = Sm (wn L off) nu + b * 4294967296 ^ nu ∧ w.grownBy w' (some gu) := by
  have HL' := Lib.hid wb.2.1
  have HBL := Lib.hid hBl
  clear hBl
  go_enter Tryz.func137, Tryz.ntmps137
  go_wp2
  go_loopw [7, 8, 13] (fun cv bv iv wr => ∃ (k cr br : Nat) (L' : List Nat), k ≤ nu ∧ iv = .int .i64 (k : Nat) ∧ cv = .int .u64 (cr : Nat) ∧ bv = .int .u64 (br : Nat) ∧ cr < 4294967296 ∧ br ≤ 1 ∧ RemI L L' l' off nu q k cr br ∧ Blk wr gu 84 (cellsOf L') ∧ w.grownBy wr (some gu)) (fun _ _ iv _ => nu - (intOf iv).toNat)
  case atStart => exact ⟨0, 0, 0, L, Nat.zero_le _, rfl, rfl, rfl, by omega, by omega, ⟨⟨rfl, hWL, fun _ _ => rfl⟩, ⟨fun _ _ => rfl, fun h => absurd h (by omega)⟩, by simp [Sm]⟩, HBL.out, only_refl _ _⟩
  case round =>
    obtain ⟨k, cr, br, L', hk, rfl, rfl, rfl, hcr, hbr, hI, hB, hg⟩ := hrel
    have HI := Lib.hid hI
    have HB := Lib.hid hB
    have HG := Lib.hid hg
    clear hI hB hg
    by_cases hkn : k < nu
    · obtain ⟨x, y, hx, hy⟩ : ∃ x y, wd L (off + k) = x ∧ wd l' k = y := ⟨_, _, rfl, rfl⟩
      have hx1 : x < 4294967296 := by rw [← hx]; exact wd_lt hWL _
      have hy1 : y < 4294967296 := by rw [← hy]; exact wb.lt _
      have hck := HB.out.cell (off + k)
      rw [cellsOf_get (by rw [HI.out.1.1]; omega), HI.out.2.1.1 _ (Nat.le_refl _), hx] at hck
      have hfk := HB.out.frozen (off + k)
      have HX := Lib.hid hx
      have HY := Lib.hid hy
      obtain ⟨p, hp⟩ : ∃ d, IntKind.u64.wrap ((q : Int) * (y : Int)) = d := ⟨_, rfl⟩
      obtain ⟨s, hs⟩ : ∃ d, IntKind.u64.wrap ((cr : Int) + p) = d := ⟨_, rfl⟩
      obtain ⟨d1, hd1⟩ : ∃ d, IntKind.u64.wrap ((x : Int) - s % 4294967296) = d := ⟨_, rfl⟩
      obtain ⟨d2, hd2⟩ : ∃ d, IntKind.u64.wrap (d1 - (br : Int)) = d := ⟨_, rfl⟩
      have HD := Lib.hid (remove_word hx1 hy1 hcr hq hbr hp hs hd1 hd2)
      clear hx hy
      go_wp2_with (go_at_call 75; (refine (word_x _ A' n' c' l' ?_ k y HY.out (by omega)).mono ?_); exact wb.keepG hne HG.out; rintro e w' ⟨rfl, rfl⟩)
      clear hp hs hd1 hd2
      obtain ⟨cn, bn, lo, hcn, hbn, hlo, ec, eb, el, hh, hz⟩ := HD.out
      rw [ec, eb]
      go_roundw
      case rel =>
        refine ⟨k + 1, cn, bn, L'.set (off + k) lo, by omega, by go_num, rfl, rfl, hcn, hbn, ⟨⟨by rw [List.length_set]; exact HI.out.1.1, wds_set HI.out.1.2.1 _ hlo, ?_⟩, ⟨?_, ?_⟩, ?_⟩, HB.out.setW (off + k) _ _ el, only_set HG.out _ _⟩
        · intro j hj; rw [wd_set, if_neg (by omega)]; exact HI.out.1.2.2 j hj
        · intro j hj; rw [wd_set, if_neg (by omega)]; exact HI.out.2.1.1 j (by omega)
        · intro hlk
          apply hz
          rw [← HY.out]; exact wd_ge (by omega)
        · have e1 : Sm (wn (L'.set (off + k) lo) off) k = Sm (wn L' off) k := Sm_congr fun j hj => by unfold wn; rw [wd_set, if_neg (by omega)]
          have e2 : wn (L'.set (off + k) lo) off k = lo := by unfold wn; rw [wd_set, if_pos ⟨rfl, by rw [HI.out.1.1]; omega⟩]
          have e3 : wn L off k = x := HX.out
          rw [Sm, Sm, Sm, e1, e2, e3, HY.out, Nat.mul_add, ← Nat.mul_assoc]
          exact rem_fin HI.out.2.2 rfl hh (by rw [Nat.pow_succ])
      case measure => simp [intOf]; omega
    · have hkk : k = nu := by omega
      subst hkk
      have hcz : cr = 0 := by
        exact HI.out.2.1.2 (by rw [← HL'.out]; exact hlt)
      have HC := Lib.hid hcz
      clear hcz
      go_wp2
      go_ret
      refine ⟨L', br, hbr, ?_, HB.out, HI.out.1, ?_, HG.out⟩
      · rcases (show br = 0 ∨ br = 1 by omega) with rfl | rfl <;> rfl
      · have h1 := HI.out.2.2
        rw [HC.out, Nat.zero_add, Sm_ge l' (by rw [← HL'.out]; omega)] at h1
        exact h1
end Go.Proofs.YtpnnfbodphflpaaGreatDoor

namespace Go.Proofs.YtpnnfbodphflpaaGreatDoor
open Go Go.RowKit Bn
theorem back_word {x y cr : Nat} (hx : x < 4294967296) (hy : y < 4294967296) (hc : cr ≤ 1) {p s : Int} (h1 : IntKind.u64.wrap ((x : Int) + (y : Int)) = p) (h2 : IntKind.u64.wrap ((cr : Int) + p) = s) : s = ((cr + x + y : Nat) : Int) ∧ (cr + x + y) / 4294967296 ≤ 1 := by
  rw [IntKind.wrap_u64] at h1 h2
  omega
def BackI (L L' l' : List Nat) (off nu k cr : Nat) : Prop := Win L L' off nu ∧ (∀ j, off + k ≤ j → wd L' j = wd L j) ∧ Sm (wn L' off) k + cr * 4294967296 ^ k = Sm (wn L off) k + Sm (wd l') k
set_option maxHeartbeats 1000000 in
/-- integer.back -/
theorem back_c (w : World) (gu off nu cu : Nat) (L : List Nat) (hBl : Blk w gu 84 (cellsOf L)) (hWL : Wds L) (hoff : off + nu ≤ L.length) (hnu : nu ≤ 4398046511104)
    (A' : Option Addr) (n' c' : Nat) (l' : List Nat) (wb : Wd w A' n' c' l') (hne : ∀ a, A' = some a → a.block ≠ gu) (hlt : n' ≤ nu) :
    Calls Tryz.prog 138 #[.slice (some ⟨gu, off, none⟩) nu cu, .slice A' n' c'] w fun e w' => ∃ (L' : List Nat) (cr : Nat), cr ≤ 1 ∧ e = .returned (.tuple #[]) ∧ Blk w' gu 84 (cellsOf L') ∧ Win L L' off nu ∧ Sm (wn L' off) nu + cr * 4294967296 ^ nu = Sm (wn L off) nu + val l' ∧ w.grownBy w' (some gu) := by
  have HL' := Lib.hid wb.2.1
  have HBL := Lib.hid hBl
  clear hBl
  go_enter Tryz.func138, Tryz.ntmps138
  go_wp2
  go_loopw [4, 8] (fun cv iv wr => ∃ (k cr : Nat) (L' : List Nat), k ≤ nu ∧ iv = .int .i64 (k : Nat) ∧ cv = .int .u64 (cr : Nat) ∧ cr ≤ 1 ∧ BackI L L' l' off nu k cr ∧ Blk wr gu 84 (cellsOf L') ∧ w.grownBy wr (some gu)) (fun _ iv _ => nu - (intOf iv).toNat)
  case atStart => exact ⟨0, 0, L, Nat.zero_le _, rfl, rfl, by omega, ⟨⟨rfl, hWL, fun _ _ => rfl⟩, fun _ _ => rfl, by simp [Sm]⟩, HBL.out, only_refl _ _⟩
  case round =>
    obtain ⟨k, cr, L', hk, rfl, rfl, hcr, hI, hB, hg⟩ := hrel
    have HI := Lib.hid hI
    have HB := Lib.hid hB
    have HG := Lib.hid hg
    clear hI hB hg
    by_cases hkn : k < nu
    · obtain ⟨x, y, hx, hy⟩ : ∃ x y, wd L (off + k) = x ∧ wd l' k = y := ⟨_, _, rfl, rfl⟩
      have hx1 : x < 4294967296 := by rw [← hx]; exact wd_lt hWL _
      have hy1 : y < 4294967296 := by rw [← hy]; exact wb.lt _
      have hck := HB.out.cell (off + k)
      rw [cellsOf_get (by rw [HI.out.1.1]; omega), HI.out.2.1 _ (Nat.le_refl _), hx] at hck
      have hfk := HB.out.frozen (off + k)
      have HX := Lib.hid hx
      have HY := Lib.hid hy
      have hk0 : (0 : Int) ≤ (k : Int) := by omega
      have hk1 : (k : Int) < (nu : Int) := by omega
      have e1 : IntKind.u64.wrap (x : Int) = (x : Int) := IntWalk.u64_in _ ⟨by omega, by omega⟩
      obtain ⟨p, hp⟩ : ∃ d, IntKind.u64.wrap ((x : Int) + (y : Int)) = d := ⟨_, rfl⟩
      obtain ⟨s, hs⟩ : ∃ d, IntKind.u64.wrap ((cr : Int) + p) = d := ⟨_, rfl⟩
      have HD := Lib.hid (back_word hx1 hy1 hcr hp hs)
      clear hx hy
      go_wp2_with fail
      go_quiet ((go_at_call 75; exact Calls.quiet_of_same (word_q _ A' n' c' l' ((wb.keepG hne HG.out).keep ((Kp.refl _).drewN _)) k y HY.out (by omega))))
      clear hp hs e1
      go_wp2
      obtain ⟨es, hs2⟩ := HD.out
      rw [es]
      go_roundw
      case rel =>
        refine ⟨k + 1, (cr + x + y) / 4294967296, L'.set (off + k) ((cr + x + y) % 4294967296), by omega, by go_num, by go_num, hs2, ⟨⟨by rw [List.length_set]; exact HI.out.1.1, wds_set HI.out.1.2.1 _ (Nat.mod_lt _ (by omega)), ?_⟩, ?_, ?_⟩, ?_, only_set (only_drewN HG.out _) _ _⟩
        · intro j hj; rw [wd_set, if_neg (by omega)]; exact HI.out.1.2.2 j hj
        · intro j hj; rw [wd_set, if_neg (by omega)]; exact HI.out.2.1 j (by omega)
        · have e1 : Sm (wn (L'.set (off + k) ((cr + x + y) % 4294967296)) off) k = Sm (wn L' off) k := Sm_congr fun j hj => by unfold wn; rw [wd_set, if_neg (by omega)]
          have e2 : wn (L'.set (off + k) ((cr + x + y) % 4294967296)) off k = (cr + x + y) % 4294967296 := by unfold wn; rw [wd_set, if_pos ⟨rfl, by rw [HI.out.1.1]; omega⟩]
          have e3 : wn L off k = x := HX.out
          rw [Sm, Sm, Sm, e1, e2, e3, HY.out, Nat.pow_succ]
          exact plus_step HI.out.2.2
        · exact (HB.out.drewN _).setW (off + k) _ _ (by omega)
      case measure => simp [intOf]; omega
    · have hkk : k = nu := by omega
      subst hkk
      go_wp2
      go_end0
      refine ⟨L', cr, hcr, rfl, HB.out, HI.out.1, ?_, HG.out⟩
      have h1 := HI.out.2.2
      rw [Sm_ge l' (by rw [← HL'.out]; omega)] at h1
      exact h1
end Go.Proofs.YtpnnfbodphflpaaGreatDoor

/- Walks: the long division, first part: where no division is made, and by one word. -/
namespace Go.Proofs.YtpnnfbodphflpaaGreatDoor
open Go Go.RowKit Bn

/-- A list of one word that has just been laid. -/
theorem one_word (w : World) (z : Int) (x : Nat) (hz : z = x) (hx : x < 4294967296) : Wd (w.alloc (.cells #[.int .u32 z] 84)) (some ⟨w.heap.size, 0, none⟩) 1 1 [x] := by
  subst hz
  exact (Blk.new w 84 (cellsOf [x])).wdN (by intro y hy; simp at hy; omega) rfl
/-- What divide returns. -/
def RetD (w : World) (a b : Nat) (e : Ending) (w' : World) : Prop := ∃ A1 n1 c1 A2 n2 c2, e = .returned (.tuple #[.slice A1 n1 c1, .slice A2 n2 c2]) ∧ Wd w' A1 n1 c1 (digs (a / b)) ∧ Wd w' A2 n2 c2 (digs (a % b)) ∧ Below w.heap.size w w'
/-- integer.divide, the first number being less. -/
theorem divide_lt (w : World) (A : Option Addr) (n c : Nat) (l : List Nat) (wa : Wd w A n c l) (hn : n ≤ 1099511627776) (A' : Option Addr) (n' c' : Nat) (l' : List Nat) (wb : Wd w A' n' c' l') (hn' : n' ≤ 1099511627776) (hc : Canon l) (hc' : Canon l') (hlt : val l < val l') :
    Calls Tryz.prog 100 #[.slice A n c, .slice A' n' c'] w (RetD w (val l) (val l')) := by
  have h1 := compare_c w A n c l wa hn A' n' c' l' wb hn' hc hc'
  rw [show cmpN (val l) (val l') = -1 by unfold cmpN; rw [if_pos hlt]] at h1
  have H1 := Lib.hid h1
  have HD := Lib.hid (And.intro (Nat.div_eq_of_lt hlt) (Nat.mod_eq_of_lt hlt))
  clear h1 hlt
  go_enter Tryz.func100, Tryz.ntmps100
  go_wp2_with (first
    | (go_at_call 77; refine (H1.out).mono ?_; rintro e w1 ⟨rfl, hb1⟩)
    | (go_at_call 61; (refine (trim_c _ A n c l ?_ (by omega)).mono ?_); exact wa.keep ((Kp.refl _).below hb1); rintro e w2 ⟨A2, n2, c2, rfl, h2, hb2⟩))
  go_ret2
  refine ⟨none, 0, 0, A2, n2, c2, rfl, ?_, ?_, hb1.trans (hb2.mono hb1.size)⟩
  · rw [HD.out.1, digs_zero]; exact Wd.nil_ _
  · rw [HD.out.2]; exact h2
/-- integer.divide, by one word. -/
theorem divide_one (w : World) (A : Option Addr) (n c : Nat) (l : List Nat) (wa : Wd w A n c l) (hn : n ≤ 1099511627776) (A' : Option Addr) (n' c' : Nat) (l' : List Nat) (wb : Wd w A' n' c' l') (hc : Canon l) (hc' : Canon l') (hge : val l' ≤ val l) (hone : n' = 1) :
    Calls Tryz.prog 100 #[.slice A n c, .slice A' n' c'] w (RetD w (val l) (val l')) := by
  subst hone
  have hlen := wb.2.1
  obtain ⟨y, rfl⟩ : ∃ y, l' = [y] := by
    match l', hlen with
    | [y], _ => exact ⟨y, rfl⟩
  have hy1 : y < 4294967296 := hc'.1 y (by simp)
  have hy0 : 0 < y := by have := hc'.2; simp at this; omega
  have hv : val [y] = y := by simp [val]
  have h1 := compare_c w A n c l wa hn A' 1 c' [y] wb (by omega) hc hc'
  obtain ⟨c0, hc0, hc00⟩ : ∃ c0, cmpN (val l) (val [y]) = c0 ∧ 0 ≤ c0 := ⟨_, rfl, by unfold cmpN; rw [if_neg (by omega)]; split <;> omega⟩
  rw [hc0] at h1
  have H1 := Lib.hid h1
  have HV := Lib.hid hv
  obtain ⟨g', o', rfl, hgl, hcell⟩ := wb.at2 (by omega)
  have hcy := hcell 0 (by omega)
  simp only [wd, List.getD_cons_zero, Nat.add_zero] at hcy
  clear h1 hc0 hcell hv hlen hge
  go_enter Tryz.func100, Tryz.ntmps100
  go_wp2_with (first
    | (go_at_call 77; refine (H1.out).mono ?_; rintro e w1 ⟨rfl, hb1⟩; have hcy1 := (hb1.cell (p := ⟨g', o', none⟩) hgl).trans hcy)
    | (go_at_call 67; (refine (short_c _ A n c l ?_ hn y hy0 hy1).mono ?_); exact wa.keep ((Kp.refl _).below hb1); rintro e w2 ⟨A2, n2, c2, rfl, h2, hb2⟩)
    | (go_at_call 61; (refine (trim_c _ _ 1 1 [val l % y] ?_ (by omega)).mono ?_); exact one_word _ _ _ (by simp) (Nat.lt_trans (Nat.mod_lt _ hy0) hy1); rintro e w3 ⟨A3, n3, c3, rfl, h3, hb3⟩))
  go_ret2
  rw [HV.out]
  have e1 : val [val l % y] = val l % y := by simp [val]
  rw [e1] at h3
  exact ⟨_, _, _, _, _, _, rfl, h2.keep (((Kp.refl _).alloc _).below hb3), h3, ((hb1.trans (hb2.mono hb1.size)).alloc (Nat.le_trans hb1.size hb2.size) _).trans (hb3.mono (Nat.le_trans (Nat.le_trans hb1.size hb2.size) (by simp)))⟩
end Go.Proofs.YtpnnfbodphflpaaGreatDoor

/- Walks: the long division. -/
namespace Go.Proofs.YtpnnfbodphflpaaGreatDoor
open Go Go.RowKit Bn
attribute [local go_sem ↓] Go.wp_at_zero Go.wp_at_succ

theorem bitLen_bounds (x : Nat) (h0 : x ≠ 0) (h1 : x < 2 ^ 64) : ∃ k, Lib.bitLen x = k + 1 ∧ 2 ^ k ≤ x ∧ x < 2 ^ (k + 1) := by
  induction x using Nat.strongRecOn with
  | ind x ih =>
    have hb := Lib.bitLen_half x h0 h1
    by_cases h2 : x / 2 = 0
    · refine ⟨0, ?_, by omega, by omega⟩
      rw [hb, h2]; rfl
    · obtain ⟨k, hk, hk1, hk2⟩ := ih (x / 2) (by omega) h2 (by omega)
      refine ⟨k + 1, by rw [hb, hk]; omega, ?_, ?_⟩
      · rw [Nat.pow_succ]; omega
      · rw [Nat.pow_succ]; omega
theorem clz_word {x : Nat} (h0 : x ≠ 0) (h1 : x < 4294967296) : ∃ m : Nat, m < 32 ∧ (32 - (Lib.bitLen x : Int)) = (m : Int) ∧ 2147483648 ≤ x * 2 ^ m ∧ (x + 1) * 2 ^ m ≤ 4294967296 := by
  obtain ⟨k, hk, hk1, hk2⟩ := bitLen_bounds x h0 (by omega)
  have hk3 : k < 32 := by
    rcases Nat.lt_or_ge k 32 with h | h
    · exact h
    · have : 2 ^ 32 ≤ 2 ^ k := Nat.pow_le_pow_right (by omega) h
      omega
  obtain ⟨e1, e2⟩ := clz_bounds (x := x) (k := k) (m := 31 - k) (by omega) hk1 hk2
  exact ⟨31 - k, by omega, by rw [hk]; omega, e1, e2⟩

/-- How the guess stands. -/
def InnerI (hd top q : Nat) (gx rx : Value) : Prop := ∃ g r : Nat, gx = .int .u64 (g : Nat) ∧ rx = .int .u64 (r : Nat) ∧ g ≤ 4294967298 ∧ r < 8589934592 ∧ Kept (g * top + r = hd ∧ q ≤ g)
theorem InnerI.mk {hd top q : Nat} (g r : Nat) {x y : Int} (h1 : x = (g : Int)) (h2 : y = (r : Int)) (h3 : g ≤ 4294967298) (h4 : r < 8589934592) (h5 : g * top + r = hd) (h6 : q ≤ g) : InnerI hd top q (.int .u64 x) (.int .u64 y) :=
  ⟨g, r, by rw [h1], by rw [h2], h3, h4, h5, h6⟩
/-- How the division stands before place k. -/
def DivI (V U0 k : Nat) (Lu Lq : List Nat) : Prop := Wds Lu ∧ Wds Lq ∧ (∀ j, j < k → wd Lq j = 0) ∧ val Lu < V * 4294967296 ^ k ∧ val Lu + V * val Lq = U0
theorem val_set_zero {Q : List Nat} {i x : Nat} (h0 : wd Q i = 0) (hi : i < Q.length) : val (Q.set i x) = val Q + x * 4294967296 ^ i := by
  have h := Sm_set_mid Q i x Q.length hi hi
  rw [h0, Nat.zero_mul, Nat.add_zero, Sm_ge _ (by rw [List.length_set]; exact Nat.le_refl _), Sm_ge _ (Nat.le_refl _)] at h
  exact h
theorem div_next {V U0 k n' P q : Nat} {L L2 Q : List Nat} (hI : DivI V U0 k L Q) (hk : 0 < k) (hkQ : k ≤ Q.length) (hw : Win L L2 (k - 1) (n' + 1)) (h7 : val L < 4294967296 ^ (k - 1 + (n' + 1))) (h6 : val L = Sm (wd L) (k - 1) + 4294967296 ^ (k - 1) * P)
    (hP2 : Sm (wn L2 (k - 1)) (n' + 1) = P % V) (hq : P / V = q) (hqB : q < 4294967296) (hV : 0 < V) : DivI V U0 (k - 1) L2 (Q.set (k - 1) q) := by
  have hvu2 := val_window' h7 hw
  rw [hP2] at hvu2
  have hlow : Sm (wd L) (k - 1) < 4294967296 ^ (k - 1) := Sm_lt fun i _ => wd_lt hI.1 _
  obtain ⟨h1, h2⟩ := div_go hI.2.2.2.2 h6 hvu2 hq.symm hlow hV
  refine ⟨hw.2.1, wds_set hI.2.1 _ hqB, fun j hj => ?_, h2, ?_⟩
  · rw [wd_set, if_neg (by omega)]; exact hI.2.2.1 j (by omega)
  · rw [val_set_zero (hI.2.2.1 _ (by omega)) (by omega)]; exact h1
theorem val_replicate (N : Nat) : val (List.replicate N 0) = 0 := by
  induction N with
  | zero => rfl
  | succ N ih => rw [List.replicate_succ, val, ih]
theorem wd_replicate (N j : Nat) : wd (List.replicate N 0) j = 0 := by
  unfold wd; by_cases hj : j < N <;> simp [List.getD, hj]
theorem wds_replicate (N : Nat) : Wds (List.replicate N 0) := by intro x hx; rw [List.eq_of_mem_replicate hx]; omega
theorem div_start {l l' : List Nat} {n n' N m : Nat} (hw : Wds l) (hl : n = l.length) (hc' : Canon l') (hl' : n' = l'.length) (hn2 : 2 ≤ n') (hN : N = n + 1 - n') (hnn : n' ≤ n) : val l * 2 ^ m < val l' * 2 ^ m * 4294967296 ^ N := by
  have h1 := val_lt hw
  have h2 := le_val hc' (by rintro rfl; simp at hl'; omega)
  rw [← hl] at h1
  rw [← hl'] at h2
  have h3 : 4294967296 ^ (n' - 1) * 4294967296 ^ N ≤ val l' * 4294967296 ^ N := Nat.mul_le_mul_right _ h2
  have h4 : 4294967296 ^ (n' - 1) * 4294967296 ^ N = 4294967296 ^ n := by rw [← Nat.pow_add]; congr 1; omega
  have h5 : val l < val l' * 4294967296 ^ N := by omega
  have h6 := Nat.mul_lt_mul_of_pos_right h5 (show 0 < 2 ^ m from Nat.pow_pos (by omega))
  have h7 : val l' * 4294967296 ^ N * 2 ^ m = val l' * 2 ^ m * 4294967296 ^ N := by rw [Nat.mul_assoc, Nat.mul_comm (4294967296 ^ N), ← Nat.mul_assoc]
  omega

set_option maxHeartbeats 4000000 in
set_option maxRecDepth 100000 in
/-- integer.divide, by two words and more. -/
theorem divide_big (w : World) (A : Option Addr) (n c : Nat) (l : List Nat) (wa : Wd w A n c l) (hn : n ≤ 1099511627000) (A' : Option Addr) (n' c' : Nat) (l' : List Nat) (wb : Wd w A' n' c' l') (hn2 : 2 ≤ n') (hc : Canon l) (hc' : Canon l') (hge : val l' ≤ val l) :
    Calls Tryz.prog 100 #[.slice A n c,   .slice A' n' c'] w (RetD w (val l) (val l')) := by
  have HL := Lib.hid wa.2.1
  have HL' := Lib.hid wb.2.1
  have hnn : n' ≤ n := by
    rcases Nat.lt_or_ge n (n') with h | h
    · have := val_lt_of_len hc.1 hc' (by rw [← HL.out, ← HL'.out]; exact h)
      omega
    · exact h
  have h1 := compare_c w A n c l wa (by omega) A' (n') c' l' wb (by omega) hc hc'
  obtain ⟨c0, hc0, hc00⟩ : ∃ c0, cmpN (val l) (val l') = c0 ∧ 0 ≤ c0 := ⟨_, rfl, by unfold cmpN; rw [if_neg (by omega)]; split <;> omega⟩
  rw [hc0] at h1
  have H1 := Lib.hid h1
  obtain ⟨g', o', rfl, hgl, hcell⟩ := wb.at2 (by omega)
  obtain ⟨t0, ht0⟩ : ∃ t0, wd l' (n' - 1) = t0 := ⟨_, rfl⟩
  have hct := hcell (n' - 1) (by omega)
  rw [ht0] at hct
  have ht00 : t0 ≠ 0 := by
    rw [← ht0]; have := hc'.last (by intro e; have := HL'.out; rw [e] at this; simp at this; omega)
    rw [← HL'.out] at this; exact this
  have ht01 : t0 < 4294967296 := by rw [← ht0]; exact wb.lt _
  obtain ⟨m, hm, hmz, hm1, hm2⟩ := clz_word ht00 ht01
  have hlz := fun W => (Tryz.bits_LeadingZeros32 (t0 : Int) W (by omega) (by omega))
  simp only [Int.toNat_natCast, hmz] at hlz
  have HLZ := Lib.hid hlz
  have HT0 := Lib.hid ht0
  have HM := Lib.hid (And.intro hm1 hm2)
  have hn1 : ((n' : Int) == 1) = false := by simp; omega
  have hn3 : (0 : Int) ≤ (n' : Int) := by omega
  have hn4 : (n' : Int) ≤ ((n' + 1 : Nat) : Int) := by omega
  have hn5 : (n' : Int) ≤ (n' : Int) + 1 := by omega
  clear h1 hc0 hcell hge hmz hm1 hm2 hlz ht0 ht00
  go_enter Tryz.func100, Tryz.ntmps100
  go_wp2_with (first
    | (go_at_call 77; refine (H1.out).mono ?_; rintro e w1 ⟨rfl, hb1⟩; have hct1 := (hb1.cell (p := ⟨g', o' + (n' - 1), none⟩) hgl).trans hct)
    | (go_at_call 135; refine (HLZ.out _).mono ?_; rintro e w1' ⟨rfl, rfl⟩))
  have k1 : Kp w w1' := (Kp.refl w).below hb1
  go_region_held3 (fun _ => True) (trivial)
    (first
      | (go_at_call 136; (with_reducible refine (up_g _ (some ⟨g', o', none⟩) (n') c' l' ?_ ?_ m hm).mono ?_); exact wb.keep k1.drew; omega; rintro e w2 ⟨Lv, gv, rfl, hgv, hWv, hLv, hvv, hBv, hb2⟩)
      | (go_at_call 136; (with_reducible refine (up_g _ A n c l ?_ ?_ m hm).mono ?_); exact wa.keep (k1.drew.below hb2); omega; rintro e w3 ⟨Lu, gu, rfl, hgu, hWu, hLu, hvu, hBu, hb3⟩))
  have hgv1 : w.heap.size ≤ gv := Nat.le_trans hb1.size hgv
  have hgvu : gv < gu := Nat.lt_of_lt_of_le hBv.lt hgu
  have hguq : gu < w3.heap.size := hBu.lt
  have hgvq : gv < w3.heap.size := Nat.lt_trans hgvu hguq
  have hBv3 := hBv.below hb3 hBv.lt
  have hbel3 : Below w.heap.size w w3 := (hb1.drew.trans (hb2.mono hb1.size)).trans (hb3.mono (Nat.le_trans hb1.size hb2.size))
  obtain ⟨N, hN⟩ : ∃ N, N = n + 1 - n' := ⟨_, rfl⟩
  have HN := Lib.hid hN
  have hN1 : N ≤ 1099511627001 := by omega
  obtain ⟨top, next, htop, hnext⟩ : ∃ x y, wd Lv (n' - 1) = x ∧ wd Lv (n' - 2) = y := ⟨_, _, rfl, rfl⟩
  have hctop := hBv3.cell (n' - 1)
  rw [cellsOf_get (by rw [hLv]; omega), htop] at hctop
  have hcnext := hBv3.cell (n' - 2)
  rw [cellsOf_get (by rw [hLv]; omega), hnext] at hcnext
  have htop1 : top < 4294967296 := by rw [← htop]; exact wd_lt hWv _
  have hnext1 : next < 4294967296 := by rw [← hnext]; exact wd_lt hWv _
  obtain ⟨V, hV⟩ : ∃ V, V = val l' * 2 ^ m := ⟨_, rfl⟩
  obtain ⟨U0, hU0⟩ : ∃ U0, U0 = val l * 2 ^ m := ⟨_, rfl⟩
  have hnorm := norm_top (nn := n' - 2) wb.1 (by rw [← HL'.out]; omega) (by rw [show n' - 2 + 1 = n' - 1 by omega]; exact HT0.out) HM.out.1 HM.out.2 (by rw [hLv]; omega) hWv hvv
  rw [show n' - 2 + 2 = n' by omega, show n' - 2 + 1 = n' - 1 by omega, htop, ← hV] at hnorm
  have HV := Lib.hid (And.intro hV (And.intro hvv hnorm))
  have htop2 : 2147483648 ≤ top := hnorm.2
  have HU := Lib.hid (And.intro hU0 hvu)
  have HTN := Lib.hid (And.intro htop hnext)
  have HLv := Lib.hid hLv
  have HLu := Lib.hid hLu
  have HBv := Lib.hid hBv3
  have HBu := Lib.hid hBu
  have HWv := Lib.hid hWv
  have HWu := Lib.hid hWu
  clear hN hLv hLu hvv hvu hnorm hV hU0 htop hnext hBv hBu hBv3 hWv hWu hct1 hct hgv hgu k1 hb1 hb2 hb3 hn4 hn5
  have i1 : IntKind.i64.wrap ((n' : Int) - 1) = (n' : Int) - 1 := IntWalk.i64_in _ ⟨by omega, by omega⟩
  have i2 : IntKind.i64.wrap ((n' : Int) - 2) = (n' : Int) - 2 := IntWalk.i64_in _ ⟨by omega, by omega⟩
  have i3 : (0 : Int) ≤ (n' : Int) - 1 := by omega
  have i4 : (n' : Int) - 1 < (n' : Int) := by omega
  have i5 : ((n' : Int) - 1).toNat = n' - 1 := by omega
  have i6 : (0 : Int) ≤ (n' : Int) - 2 := by omega
  have i7 : (n' : Int) - 2 < (n' : Int) := by omega
  have i8 : ((n' : Int) - 2).toNat = n' - 2 := by omega
  have i9 : IntKind.u64.wrap (top : Int) = (top : Int) := IntWalk.u64_in _ ⟨by omega, by omega⟩
  have i10 : IntKind.u64.wrap (next : Int) = (next : Int) := IntWalk.u64_in _ ⟨by omega, by omega⟩
  go_wp2_with (at_make; refine wpList_make_words _ rfl _ _ rfl _ _ _ _ N rfl rfl (by have := HN.out; omega) (by have := HN.out; omega) (by omega) ?_)
  go_quiet (fail)
  go_wp2_with fail
  clear i1 i2 i3 i4 i5 i6 i7 i8 i9 i10 hctop hcnext
  go_loopw [14] (fun iv wr => ∃ (k : Nat) (L Q : List Nat), k ≤ N ∧ iv = .int .i64 ((k : Int) - 1) ∧ L.length = n + 1 ∧ Q.length = N ∧ DivI V U0 k L Q ∧ Blk wr gu 84 (cellsOf L) ∧ Blk wr w3.heap.size 84 (cellsOf Q) ∧ Blk wr gv 84 (cellsOf Lv) ∧ Below w.heap.size w wr) (fun iv _ => (intOf iv + 1).toNat)
  case atStart =>
    refine ⟨N, Lu, List.replicate N 0, Nat.le_refl _, rfl, HLu.out, by simp, ⟨HWu.out, wds_replicate N, fun j _ => wd_replicate N j, ?_, ?_⟩, ?_, ?_, ?_, ?_⟩
    · rw [HU.out.2, HV.out.1]; exact div_start wa.1 HL.out hc' HL'.out hn2 HN.out hnn
    · rw [val_replicate, HU.out.2, HU.out.1]; simp
    · exact (HBu.out.alloc _).drewN _
    · exact (Blk.new _ _ _).drewN _
    · exact (HBv.out.alloc _).drewN _
    · exact below_drewN (hbel3.alloc hbel3.size _) _
  case round =>
    obtain ⟨k, L, Q, hk, rfl, hLL, hLQ, hI, hBu, hBq, hBv, hbel⟩ := hrel
    have HI := Lib.hid hI
    have HBu2 := Lib.hid hBu
    have HBq2 := Lib.hid hBq
    have HBv2 := Lib.hid hBv
    have HLL := Lib.hid hLL
    have HLQ := Lib.hid hLQ
    clear hI hBu hBq hBv hLL hLQ
    by_cases hk0 : k = 0
    · subst hk0
      have hval := div_shift (a := val l) (b := val l') (q := val Q) (r := val L) (s := 2 ^ m) (Nat.pow_pos (by omega))
        (by have := HV.out.2.2.1; have h3 := HV.out.1; rcases Nat.eq_zero_or_pos (val l') with h0 | h0
            · exfalso
              have h4 := HI.out.2.2.2.1
              rw [h3, h0, Nat.zero_mul, Nat.zero_mul] at h4
              omega
            · exact h0)
        (by rw [← HV.out.1, ← HU.out.1]; exact HI.out.2.2.2.2) (by rw [← HV.out.1]; have := HI.out.2.2.2.1; rw [Nat.pow_zero, Nat.mul_one] at this; exact this)
      have HQR := Lib.hid hval
      clear hval
      have e0 : ((0 : Nat) : Int) - 1 = -1 := rfl
      rw [e0]
      clear e0
      go_wp2_with (first
        | (go_at_call 61; (with_reducible refine (trim_c _ (some ⟨w3.heap.size, 0, none⟩) N N Q ?_ (by omega)).mono ?_); exact HBq2.out.wdN HI.out.2.1 HLQ.out; rintro e w5 ⟨A5, n5, c5, rfl, h5, hb5⟩)
        | (go_at_call 103; (with_reducible refine (down_c _ (some ⟨gu, 0, none⟩) (n + 1) (n + 1) L ?_ (by omega) m hm).mono ?_); exact (HBu2.out.below hb5 HBu2.out.lt).wdN HI.out.1 HLL.out; rintro e w6 ⟨A6, n6, c6, rfl, h6, hb6⟩))
      go_ret2
      rw [HQR.out.1] at h5
      rw [HQR.out.2] at h6
      exact ⟨_, _, _, _, _, _, rfl, h5.keep ((Kp.refl _).below hb6), h6, hbel.trans ((hb5.mono hbel.size).trans (hb6.mono (Nat.le_trans hbel.size hb5.size)))⟩
    · have hNle : N + n' = n + 1 := by have := HN.out; omega
      have HNle := Lib.hid hNle
      have hjn : k + n' ≤ n + 1 := by omega
      clear hNle
      obtain ⟨pa, pb, pc, hpa, hpb, hpc⟩ : ∃ x y z, wd L (k - 1 + n') = x ∧ wd L (k - 1 + (n' - 1)) = y ∧ wd L (k - 1 + (n' - 2)) = z := ⟨_, _, _, rfl, rfl, rfl⟩
      have hca := HBu2.out.cell (k - 1 + n')
      rw [cellsOf_get (by rw [HLL.out]; omega), hpa] at hca
      have hcb := HBu2.out.cell (k - 1 + (n' - 1))
      rw [cellsOf_get (by rw [HLL.out]; omega), hpb] at hcb
      have hcc := HBu2.out.cell (k - 1 + (n' - 2))
      rw [cellsOf_get (by rw [HLL.out]; omega), hpc] at hcc
      have hpa1 : pa < 4294967296 := by rw [← hpa]; exact wd_lt HI.out.1 _
      have hpb1 : pb < 4294967296 := by rw [← hpb]; exact wd_lt HI.out.1 _
      have hpc1 : pc < 4294967296 := by rw [← hpc]; exact wd_lt HI.out.1 _
      have HP := Lib.hid (And.intro hpa (And.intro hpb hpc))
      have hkp : 0 < k := by omega
      clear hpa hpb hpc hk0
      obtain ⟨hd, hhd⟩ : ∃ hd : Nat, hd = pa * 4294967296 + pb := ⟨_, rfl⟩
      have HHD := Lib.hid hhd
      obtain ⟨g0, r0, hg0, hr0⟩ : ∃ g0 r0 : Nat, hd / top = g0 ∧ hd % top = r0 := ⟨_, _, rfl, rfl⟩
      have HGR := Lib.hid (And.intro hg0 hr0)
      go_wp2_with fail
      have e15 : k - 1 + n' + 1 - (k - 1) = n' + 1 := by omega
      rw [e15]
      clear e15
      have i1 : IntKind.i64.wrap ((n' : Int) - 1) = (n' : Int) - 1 := IntWalk.i64_in _ ⟨by omega, by omega⟩
      have i3 : (0 : Int) ≤ (n' : Int) - 1 := by omega
      have i4 : (n' : Int) - 1 < (n' : Int) + 1 := by omega
      have i5 : ((n' : Int) - 1).toNat = n' - 1 := by omega
      have i6 : (n' : Int) < (n' : Int) + 1 := by omega
      have j1 : IntKind.u64.wrap (pa : Int) = (pa : Int) := IntWalk.u64_in _ ⟨by omega, by omega⟩
      have j2 : IntKind.u64.wrap (pb : Int) = (pb : Int) := IntWalk.u64_in _ ⟨by omega, by omega⟩
      have j3 : IntKind.u64.wrap ((pa : Int) * 4294967296) = (pa : Int) * 4294967296 := IntWalk.u64_in _ ⟨by omega, by omega⟩
      have j4 : bits .or .u64 ((pa : Int) * 4294967296) (pb : Int) = (hd : Int) := by rw [hhd]; exact join_word hpa1 hpb1
      clear hhd hg0 hr0
      have hset := div_setup (L := L) (lv := Lv.take n') (V := V) (nn := n' - 2) (k := k) (pa := pa) (pb := pb) (pc := pc) (top := top) (next := next) HI.out.1 (Wds.take HWv.out _) (by rw [List.length_take, HLv.out]; omega) HV.out.2.2.1 hkp HI.out.2.2.2.1
        (by rw [show n' - 2 + 2 = n' by omega]; exact HP.out.1) (by rw [show n' - 2 + 1 = n' - 1 by omega]; exact HP.out.2.1) HP.out.2.2 (by rw [show n' - 2 + 1 = n' - 1 by omega, wd_take (by omega)]; exact HTN.out.1) (by rw [wd_take (by omega)]; exact HTN.out.2)
      rw [show n' - 2 + 3 = n' + 1 by omega] at hset
      obtain ⟨lowp, lowv, hs1, hs2, hs3, hs4, hs5, hs6, hs7⟩ := hset
      obtain ⟨P, hPd⟩ : ∃ P, Sm (wn L (k - 1)) (n' + 1) = P := ⟨_, rfl⟩
      rw [hPd] at hs1 hs5 hs6
      rw [← HHD.out] at hs1
      have htp : 0 < top := by omega
      have hVp : 0 < V := by
        rw [hs3]
        have : 1 * (4294967296 ^ (n' - 2) * 4294967296) ≤ top * (4294967296 ^ (n' - 2) * 4294967296) := Nat.mul_le_mul_right _ htp
        have h2 := pow_pos' (n' - 2)
        omega
      have hhd2 : hd < (top + 1) * 4294967296 := head_lt (D := 4294967296 ^ (n' - 2)) (third := pc * 4294967296 ^ (n' - 2) + lowp) (lowv := next * 4294967296 ^ (n' - 2) + lowv) (by rw [hs1, Nat.add_assoc]) (by rw [hs3, Nat.add_assoc]) (by
        have h1 : (next + 1) * 4294967296 ^ (n' - 2) ≤ 4294967296 * 4294967296 ^ (n' - 2) := Nat.mul_le_mul_right _ hnext1
        rw [Nat.add_mul, Nat.mul_comm 4294967296] at h1
        omega) hs5
      have hst := inner_start (pb := 0) hs1 hs2 hpc1 hs3 htp
      have hgl := guess_le hhd2 htop2
      have hdm := Nat.div_add_mod hd top
      rw [HGR.out.1] at hst hgl hdm
      rw [HGR.out.2] at hdm
      have hr0 : r0 < top := by rw [← HGR.out.2]; exact Nat.mod_lt _ htp
      obtain ⟨q, hqd⟩ : ∃ q, P / V = q := ⟨_, rfl⟩
      rw [hqd] at hst
      have HS := Lib.hid (And.intro hs1 (And.intro hs2 (And.intro hs3 (And.intro hs4 (And.intro hs5 (And.intro hs6 hs7))))))
      have HPQ := Lib.hid (And.intro hPd hqd)
      have HG0 := Lib.hid (And.intro hst hdm)
      have HHB := Lib.hid (And.intro hhd2 hVp)
      clear hs1 hs2 hs3 hs4 hs5 hs6 hs7 hPd hqd hst hdm hhd2 hVp
      go_quiet (fail)
      go_wp2_with fail
      go_quiet (fail)
      go_wp2_with fail
      clear i1 i3 i4 i5 i6 j1 j2 j3 j4
      go_loop [17, 18] (fun gx rx => InnerI hd top q gx rx) (fun gx _ => (intOf gx).toNat)
      case atStart =>
        have e1 : (hd : Int) / (top : Int) = (g0 : Int) := by rw [← HGR.out.1]; simp
        have e2 : (hd : Int) % (top : Int) = (r0 : Int) := by rw [← HGR.out.2]; simp
        have e3 : IntKind.u64.wrap ((hd : Int) / (top : Int)) = (g0 : Int) := by rw [e1]; exact IntWalk.u64_in _ ⟨by omega, by omega⟩
        exact InnerI.mk g0 r0 e3 e2 hgl (by omega) (by rw [Nat.mul_comm]; exact HG0.out.2) HG0.out.1
      case round =>
        obtain ⟨g, r, rfl, rfl, hgb, hrb, hK⟩ := hrel
        have HK := Lib.hid hK
        clear hK
        have hn2' : (2 : Int) ≤ (n' : Int) := by omega
        obtain ⟨gp, hgp⟩ : ∃ gp : Nat, gp = g * next := ⟨_, rfl⟩
        obtain ⟨rp, hrp⟩ : ∃ rp : Nat, rp = r * 4294967296 + pc := ⟨_, rfl⟩
        have HGP := Lib.hid (And.intro hgp hrp)
        by_cases hrB : r < 4294967296
        · have d1 : decide ((r : Int) < 4294967296) = true := by simp; omega
          by_cases hgB : g < 4294967296
          · have j1 : IntKind.u64.wrap ((g : Int) * (next : Int)) = (gp : Int) := by
              have hxy : g * next ≤ 4294967295 * 4294967295 := Nat.mul_le_mul (by omega) (by omega)
              have e : (g : Int) * (next : Int) = ((g * next : Nat) : Int) := by simp
              rw [e, hgp]
              exact IntWalk.u64_in _ ⟨Int.natCast_nonneg _, by omega⟩
            have j2 : bits .or .u64 ((r : Int) * 4294967296) (pc : Int) = (rp : Int) := by rw [hrp]; exact join_word hrB hpc1
            have d2 : decide ((4294967296 : Int) ≤ (g : Int)) = false := by simp; omega
            clear hgp hrp
            by_cases hT : rp < gp
            · have d3 : decide ((rp : Int) < (gp : Int)) = true := by simp; omega
              have hcont := inner_cont HS.out.1 HS.out.2.1 HS.out.2.2.1 HHB.out.2 HS.out.2.2.2.2.1 HK.out.1 (.inr (by rw [← HGP.out.1, ← HGP.out.2]; exact hT))
              rw [HPQ.out.2] at hcont
              have hgp1 : 1 ≤ g := by omega
              go_wp2
              clear j1 j2 d1 d2 d3
              go_round
              case rel =>
                refine InnerI.mk (g - 1) (r + top) ?_ ?_ ?_ ?_ ?_ ?_
                · omega
                · omega
                · omega
                · omega
                · have h1 := HK.out.1
                  have h2 : (g - 1) * top + top = g * top := by rw [← Nat.succ_mul]; congr 1; omega
                  omega
                · omega
              case measure => simp [intOf]; omega
            · have d3 : decide ((rp : Int) < (gp : Int)) = false := by simp; omega
              have hex := inner_exit HS.out.1 HS.out.2.2.1 HS.out.2.2.2.1 HHB.out.2 htp hnext1 HHB.out.1 HK.out.1 (.inr ⟨hgB, by rw [← HGP.out.1, ← HGP.out.2]; omega⟩)
              rw [HPQ.out.2] at hex
              obtain ⟨hgB2, hgq⟩ := hex
              have HX := Lib.hid hgq
              clear hgq
              go_wp2_with fail
              clear j1 j2 d1 d2 d3
              refine (remove_c _ gu (k - 1) (n' + 1) _ L ?_ HI.out.1 ?_ ?_ (some ⟨gv, 0, none⟩) n' (n' + 1) (Lv.take n') ?_ ?_ ?_ g hgB2).mono ?_
              · exact HBu2.out.drewN _
              · rw [HLL.out]; omega
              · omega
              · exact (HBv2.out.drewN _).wdT HWv.out (by rw [HLv.out]; omega) (by omega)
              · intro a ha; injection ha with ha; subst ha; show gv ≠ gu; omega
              · omega
              rintro e wR ⟨L1, b, hb, rfl, hB1, hW1, hE1, hG1⟩
              have hBqR := (HBq2.out.drewN _).grown hG1 (by intro e; injection e with e; omega)
              have hBvR := (HBv2.out.drewN _).grown hG1 (by intro e; injection e with e; omega)
              have hbelR : Below w.heap.size w wR := (below_drewN hbel _).grown hG1 hbel.size (by intro x hx; injection hx with hx; omega)
              have hcq := hBqR.cell (k - 1)
              rw [cellsOf_get (by rw [HLQ.out]; omega)] at hcq
              have hfq := hBqR.frozen (k - 1)
              have HB1 := Lib.hid (And.intro hB1 (And.intro hBqR (And.intro hBvR (And.intro hW1 hbelR))))
              rw [HPQ.out.1, HV.out.2.2.1] at hE1
              have HE1 := Lib.hid hE1
              clear hB1 hBqR hBvR hbelR hE1 hG1 hW1
              rcases (show b = 0 ∨ b = 1 by omega) with rfl | rfl
              · have hz := step_zero HHB.out.2 HPQ.out.2.symm HK.out.2 (by have := HE1.out; rw [Nat.zero_mul, Nat.add_zero] at this; exact this)
                have HZ := Lib.hid hz
                clear hz
                go_wp2
                go_roundw
                case rel =>
                  refine ⟨k - 1, L1, Q.set (k - 1) g, by omega, by go_num, by rw [HB1.out.2.2.2.1.1]; exact HLL.out, by rw [List.length_set]; exact HLQ.out, ?_, ?_, ?_, ?_, ?_⟩
                  · rw [HZ.out.1]
                    exact div_next HI.out hkp (by rw [HLQ.out]; exact hk) HB1.out.2.2.2.1 HS.out.2.2.2.2.2.2 HS.out.2.2.2.2.2.1 HZ.out.2 HPQ.out.2 (by rw [← HZ.out.1]; exact hgB2) HHB.out.2
                  · exact HB1.out.1.far (by show gu ≠ w3.heap.size; omega) _
                  · exact HB1.out.2.1.setW (k - 1) _ _ (by omega)
                  · exact HB1.out.2.2.1.far (by show gv ≠ w3.heap.size; omega) _
                  · exact HB1.out.2.2.2.2.setCell (by show w.heap.size ≤ w3.heap.size; omega) _
                case measure => simp [intOf]; omega
              · have hgp1 : 1 ≤ g := by
                  rcases Nat.eq_zero_or_pos g with h0 | h0
                  · exfalso
                    have h1 := HE1.out
                    rw [h0, Nat.zero_mul, Nat.add_zero, Nat.one_mul] at h1
                    have h2 : Sm (wn L1 (k - 1)) (n' + 1) < 4294967296 ^ (n' + 1) := Sm_lt fun i _ => wd_lt HB1.out.2.2.2.1.2.1 _
                    omega
                  · exact h0
                go_wp2_with fail
                refine (back_c _ gu (k - 1) (n' + 1) _ L1 ?_ HB1.out.2.2.2.1.2.1 ?_ ?_ (some ⟨gv, 0, none⟩) n' (n' + 1) (Lv.take n') ?_ ?_ ?_).mono ?_
                · exact HB1.out.1
                · rw [HB1.out.2.2.2.1.1, HLL.out]; omega
                · omega
                · exact HB1.out.2.2.1.wdT HWv.out (by rw [HLv.out]; omega) (by omega)
                · intro a ha; injection ha with ha; subst ha; show gv ≠ gu; omega
                · omega
                rintro e wB ⟨L2, cb, hcb, rfl, hB2, hW2, hE2, hG2⟩
                have hBqB := HB1.out.2.1.grown hG2 (by intro e; injection e with e; omega)
                have hBvB := HB1.out.2.2.1.grown hG2 (by intro e; injection e with e; omega)
                have hbelB : Below w.heap.size w wB := HB1.out.2.2.2.2.grown hG2 HB1.out.2.2.2.2.size (by intro x hx; injection hx with hx; omega)
                have hcq2 := hBqB.cell (k - 1)
                rw [cellsOf_get (by rw [HLQ.out]; omega)] at hcq2
                have hfq2 := hBqB.frozen (k - 1)
                rw [HV.out.2.2.1] at hE2
                have hVT : V ≤ 4294967296 ^ (n' + 1) := by
                  have h1 := val_lt (Wds.take HWv.out n')
                  rw [HV.out.2.2.1, List.length_take] at h1
                  have h2 : 4294967296 ^ (min n' Lv.length) ≤ 4294967296 ^ (n' + 1) := Nat.pow_le_pow_right (by omega) (by omega)
                  omega
                have hz := step_one HHB.out.2 HPQ.out.2.symm HX.out (Sm_lt fun i _ => wd_lt HB1.out.2.2.2.1.2.1 _) HE1.out hE2 hcb (Sm_lt fun i _ => wd_lt hW2.2.1 _)
                have HZ := Lib.hid hz
                have HB3 := Lib.hid (And.intro hB2 (And.intro hBqB (And.intro hBvB (And.intro (HB1.out.2.2.2.1.trans hW2) hbelB))))
                clear hz hB2 hBqB hBvB hbelB hE2 hG2 hW2 hcq hfq hVT
                go_wp2
                go_roundw
                case rel =>
                  refine ⟨k - 1, L2, Q.set (k - 1) q, by omega, by go_num, by rw [HB3.out.2.2.2.1.1]; exact HLL.out, by rw [List.length_set]; exact HLQ.out, ?_, ?_, ?_, ?_, ?_⟩
                  · exact div_next HI.out hkp (by rw [HLQ.out]; exact hk) HB3.out.2.2.2.1 HS.out.2.2.2.2.2.2 HS.out.2.2.2.2.2.1 HZ.out.2 HPQ.out.2 (by have := HZ.out.1; omega) HHB.out.2
                  · exact HB3.out.1.far (by show gu ≠ w3.heap.size; omega) _
                  · exact HB3.out.2.1.setW (k - 1) _ _ (by have := HZ.out.1; omega)
                  · exact HB3.out.2.2.1.far (by show gv ≠ w3.heap.size; omega) _
                  · exact HB3.out.2.2.2.2.setCell (by show w.heap.size ≤ w3.heap.size; omega) _
                case measure => simp [intOf]; omega
          · have d2 : decide ((4294967296 : Int) ≤ (g : Int)) = true := by simp; omega
            have hcont := inner_cont HS.out.1 HS.out.2.1 HS.out.2.2.1 HHB.out.2 HS.out.2.2.2.2.1 HK.out.1 (.inl (by omega))
            rw [HPQ.out.2] at hcont
            have hgp1 : 1 ≤ g := by omega
            clear hgp hrp
            go_wp2
            clear d1 d2
            go_round
            case rel =>
                refine InnerI.mk (g - 1) (r + top) ?_ ?_ ?_ ?_ ?_ ?_
                · omega
                · omega
                · omega
                · omega
                · have h1 := HK.out.1
                  have h2 : (g - 1) * top + top = g * top := by rw [← Nat.succ_mul]; congr 1; omega
                  omega
                · omega
            case measure => simp [intOf]; omega
        · have d1 : decide ((r : Int) < 4294967296) = false := by simp; omega
          clear hgp hrp
          have hex := inner_exit HS.out.1 HS.out.2.2.1 HS.out.2.2.2.1 HHB.out.2 htp hnext1 HHB.out.1 HK.out.1 (.inl (by omega))
          rw [HPQ.out.2] at hex
          obtain ⟨hgB2, hgq⟩ := hex
          have HX := Lib.hid hgq
          clear hgq
          go_wp2_with fail
          clear d1
          refine (remove_c _ gu (k - 1) (n' + 1) _ L ?_ HI.out.1 ?_ ?_ (some ⟨gv, 0, none⟩) n' (n' + 1) (Lv.take n') ?_ ?_ ?_ g hgB2).mono ?_
          · exact HBu2.out.drewN _
          · rw [HLL.out]; omega
          · omega
          · exact (HBv2.out.drewN _).wdT HWv.out (by rw [HLv.out]; omega) (by omega)
          · intro a ha; injection ha with ha; subst ha; show gv ≠ gu; omega
          · omega
          rintro e wR ⟨L1, b, hb, rfl, hB1, hW1, hE1, hG1⟩
          have hBqR := (HBq2.out.drewN _).grown hG1 (by intro e; injection e with e; omega)
          have hBvR := (HBv2.out.drewN _).grown hG1 (by intro e; injection e with e; omega)
          have hbelR : Below w.heap.size w wR := (below_drewN hbel _).grown hG1 hbel.size (by intro x hx; injection hx with hx; omega)
          have hcq := hBqR.cell (k - 1)
          rw [cellsOf_get (by rw [HLQ.out]; omega)] at hcq
          have hfq := hBqR.frozen (k - 1)
          have HB1 := Lib.hid (And.intro hB1 (And.intro hBqR (And.intro hBvR (And.intro hW1 hbelR))))
          rw [HPQ.out.1, HV.out.2.2.1] at hE1
          have HE1 := Lib.hid hE1
          clear hB1 hBqR hBvR hbelR hE1 hG1 hW1
          rcases (show b = 0 ∨ b = 1 by omega) with rfl | rfl
          · have hz := step_zero HHB.out.2 HPQ.out.2.symm HK.out.2 (by have := HE1.out; rw [Nat.zero_mul, Nat.add_zero] at this; exact this)
            have HZ := Lib.hid hz
            clear hz
            go_wp2
            go_roundw
            case rel =>
              refine ⟨k - 1, L1, Q.set (k - 1) g, by omega, by go_num, by rw [HB1.out.2.2.2.1.1]; exact HLL.out, by rw [List.length_set]; exact HLQ.out, ?_, ?_, ?_, ?_, ?_⟩
              · rw [HZ.out.1]
                exact div_next HI.out hkp (by rw [HLQ.out]; exact hk) HB1.out.2.2.2.1 HS.out.2.2.2.2.2.2 HS.out.2.2.2.2.2.1 HZ.out.2 HPQ.out.2 (by rw [← HZ.out.1]; exact hgB2) HHB.out.2
              · exact HB1.out.1.far (by show gu ≠ w3.heap.size; omega) _
              · exact HB1.out.2.1.setW (k - 1) _ _ (by omega)
              · exact HB1.out.2.2.1.far (by show gv ≠ w3.heap.size; omega) _
              · exact HB1.out.2.2.2.2.setCell (by show w.heap.size ≤ w3.heap.size; omega) _
            case measure => simp [intOf]; omega
          · have hgp1 : 1 ≤ g := by
              rcases Nat.eq_zero_or_pos g with h0 | h0
              · exfalso
                have h1 := HE1.out
                rw [h0, Nat.zero_mul, Nat.add_zero, Nat.one_mul] at h1
                have h2 : Sm (wn L1 (k - 1)) (n' + 1) < 4294967296 ^ (n' + 1) := Sm_lt fun i _ => wd_lt HB1.out.2.2.2.1.2.1 _
                omega
              · exact h0
            go_wp2_with fail
            refine (back_c _ gu (k - 1) (n' + 1) _ L1 ?_ HB1.out.2.2.2.1.2.1 ?_ ?_ (some ⟨gv, 0, none⟩) n' (n' + 1) (Lv.take n') ?_ ?_ ?_).mono ?_
            · exact HB1.out.1
            · rw [HB1.out.2.2.2.1.1, HLL.out]; omega
            · omega
            · exact HB1.out.2.2.1.wdT HWv.out (by rw [HLv.out]; omega) (by omega)
            · intro a ha; injection ha with ha; subst ha; show gv ≠ gu; omega
            · omega
            rintro e wB ⟨L2, cb, hcb, rfl, hB2, hW2, hE2, hG2⟩
            have hBqB := HB1.out.2.1.grown hG2 (by intro e; injection e with e; omega)
            have hBvB := HB1.out.2.2.1.grown hG2 (by intro e; injection e with e; omega)
            have hbelB : Below w.heap.size w wB := HB1.out.2.2.2.2.grown hG2 HB1.out.2.2.2.2.size (by intro x hx; injection hx with hx; omega)
            have hcq2 := hBqB.cell (k - 1)
            rw [cellsOf_get (by rw [HLQ.out]; omega)] at hcq2
            have hfq2 := hBqB.frozen (k - 1)
            rw [HV.out.2.2.1] at hE2
            have hVT : V ≤ 4294967296 ^ (n' + 1) := by
              have h1 := val_lt (Wds.take HWv.out n')
              rw [HV.out.2.2.1, List.length_take] at h1
              have h2 : 4294967296 ^ (min n' Lv.length) ≤ 4294967296 ^ (n' + 1) := Nat.pow_le_pow_right (by omega) (by omega)
              omega
            have hz := step_one HHB.out.2 HPQ.out.2.symm HX.out (Sm_lt fun i _ => wd_lt HB1.out.2.2.2.1.2.1 _) HE1.out hE2 hcb (Sm_lt fun i _ => wd_lt hW2.2.1 _)
            have HZ := Lib.hid hz
            have HB3 := Lib.hid (And.intro hB2 (And.intro hBqB (And.intro hBvB (And.intro (HB1.out.2.2.2.1.trans hW2) hbelB))))
            clear hz hB2 hBqB hBvB hbelB hE2 hG2 hW2 hcq hfq hVT
            go_wp2
            go_roundw
            case rel =>
              refine ⟨k - 1, L2, Q.set (k - 1) q, by omega, by go_num, by rw [HB3.out.2.2.2.1.1]; exact HLL.out, by rw [List.length_set]; exact HLQ.out, ?_, ?_, ?_, ?_, ?_⟩
              · exact div_next HI.out hkp (by rw [HLQ.out]; exact hk) HB3.out.2.2.2.1 HS.out.2.2.2.2.2.2 HS.out.2.2.2.2.2.1 HZ.out.2 HPQ.out.2 (by have := HZ.out.1; omega) HHB.out.2
              · exact HB3.out.1.far (by show gu ≠ w3.heap.size; omega) _
              · exact HB3.out.2.1.setW (k - 1) _ _ (by have := HZ.out.1; omega)
              · exact HB3.out.2.2.1.far (by show gv ≠ w3.heap.size; omega) _
              · exact HB3.out.2.2.2.2.setCell (by show w.heap.size ≤ w3.heap.size; omega) _
            case measure => simp [intOf]; omega

/-- integer.divide. -/
theorem divide_c (w : World) (A : Option Addr) (n c : Nat) (l : List Nat) (wa : Wd w A n c l) (hn : n ≤ 1099511627000) (A' : Option Addr) (n' c' : Nat) (l' : List Nat) (wb : Wd w A' n' c' l') (hn' : n' ≤ 1099511627000) (hc : Canon l) (hc' : Canon l') (h0 : val l' ≠ 0) :
    Calls Tryz.prog 100 #[.slice A n c, .slice A' n' c'] w (RetD w (val l) (val l')) := by
  rcases Nat.lt_or_ge (val l) (val l') with h | h
  · exact divide_lt w A n c l wa (by omega) A' n' c' l' wb (by omega) hc hc' h
  · by_cases h1 : n' = 1
    · exact divide_one w A n c l wa (by omega) A' n' c' l' wb hc hc' h h1
    · refine divide_big w A n c l wa hn A' n' c' l' wb ?_ hc hc' h
      rcases Nat.eq_zero_or_pos n' with h2 | h2
      · exfalso
        have := wb.2.1
        rw [h2] at this
        rw [List.eq_nil_of_length_eq_zero this.symm] at h0
        exact h0 rfl
      · omega
end Go.Proofs.YtpnnfbodphflpaaGreatDoor

/- Walks: integer.Gcd. -/
namespace Go.Proofs.YtpnnfbodphflpaaGreatDoor
open Go Go.RowKit Bn
attribute [local go_sem ↓] Go.wp_at_zero Go.wp_at_succ

/-- A word in memory, and what a slice of words reads as. -/
def wordAt (w : World) (p : Addr) : Nat := match w.cell? p with
  | some (.int _ z) => z.toNat
  | _ => 0
def valOf (w : World) : Value → Nat
  | .slice (some a) n _ => val ((List.range n).map fun i => wordAt w ⟨a.block, a.off + i, none⟩)
  | _ => 0
theorem Wd.valOf {w : World} {A : Option Addr} {n c : Nat} {l : List Nat} (h : Wd w A n c l) : valOf w (.slice A n c) = val l := by
  rcases Nat.eq_zero_or_pos n with h0 | h0
  · subst h0
    have := h.2.1
    have hl : l = [] := List.eq_nil_of_length_eq_zero this.symm
    subst hl
    unfold Go.Proofs.YtpnnfbodphflpaaGreatDoor.valOf
    cases A <;> rfl
  · obtain ⟨g, o, rfl, hc⟩ := h.at_ h0
    unfold Go.Proofs.YtpnnfbodphflpaaGreatDoor.valOf
    show val _ = val l
    congr 1
    apply List.ext_getElem
    · simp [h.2.1]
    · intro i h1 h2
      have h3 : i < n := by rw [h.2.1]; exact h2
      simp only [List.getElem_map, List.getElem_range, wordAt]
      rw [hc i h3]
      simp [wd, h2]
theorem mod_len {w : World} {A : Option Addr} {n c : Nat} {x y : Nat} (h : Wd w A n c (digs (x % y))) (hy : y ≠ 0) {N : Nat} (hN : y < 4294967296 ^ N) : n ≤ N := by
  rw [h.2.1]; exact length_digs_le (Nat.lt_trans (Nat.mod_lt _ (Nat.pos_of_ne_zero hy)) hN)

theorem z_nat (a : WD) : a.z.natAbs = val a.m := by
  rw [a.z_eq]; cases a.s <;> simp [sgn]
/-- How Euclid's loop stands. -/
def GcdI (G : Nat) (W0 wr : World) (x y : Value) : Prop := ∃ A1 n1 c1 l1 A2 n2 c2 l2, x = .slice A1 n1 c1 ∧ y = .slice A2 n2 c2 ∧ n1 ≤ 1099511627000 ∧ n2 ≤ 1099511627000 ∧ Kept (Wd wr A1 n1 c1 l1 ∧ Wd wr A2 n2 c2 l2 ∧ Canon l1 ∧ Canon l2 ∧ Nat.gcd (val l1) (val l2) = G) ∧ Below W0.heap.size W0 wr
set_option maxHeartbeats 2000000 in
/-- integer.Gcd -/
theorem gcd_c (w : World) (b : Bool) (A : Option Addr) (n c : Nat) (l : List Nat) (wa : Wd w A n c l) (hn : n ≤ 1099511627000) (b' : Bool) (A' : Option Addr) (n' c' : Nat) (l' : List Nat) (wb : Wd w A' n' c' l') (hn' : n' ≤ 1099511627000) :
    Calls Tryz.prog 54 #[.agg #[.bool b, .slice A n c], .agg #[.bool b', .slice A' n' c']] w (RetW w (wh (Nat.gcd (WD.z ⟨b, l⟩).natAbs (WD.z ⟨b', l'⟩).natAbs : Nat))) := by
  have HL := Lib.hid wa.2.1
  have HL' := Lib.hid wb.2.1
  have hcm1 : Canon (WD.m ⟨b, l⟩) := WD.canon_m wa.1
  have hcm2 : Canon (WD.m ⟨b', l'⟩) := WD.canon_m wb.1
  rw [z_nat ⟨b, l⟩, z_nat ⟨b', l'⟩]
  obtain ⟨G, hG⟩ : ∃ G, Nat.gcd (val (WD.m ⟨b, l⟩)) (val (WD.m ⟨b', l'⟩)) = G := ⟨_, rfl⟩
  rw [hG]
  have HGG := Lib.hid hG
  clear hG
  go_enter Tryz.func54, Tryz.ntmps54
  go_wp2_with fail
  have b0 : Below w.heap.size w (((w.alloc (.cells #[.bool b, .slice A n c] 48)).alloc (.cells #[.bool b', .slice A' n' c'] 48)).alloc (.cells #[.bool false, .slice none 0 0] 48)) := ((((Below.refl _ _).alloc (Nat.le_refl _) _).alloc (by simp) _).alloc (by simp; omega) _)
  generalize hW0 : (((w.alloc (.cells #[.bool b, .slice A n c] 48)).alloc (.cells #[.bool b', .slice A' n' c'] 48)).alloc (.cells #[.bool false, .slice none 0 0] 48)) = W0 at b0 ⊢
  have c00 : W0.cell? ⟨w.heap.size, 0, none⟩ = some (.bool b) := by subst hW0; simp [go_sem]
  have f00 : W0.frozen? ⟨w.heap.size, 0, none⟩ = false := by subst hW0; simp [go_sem]
  have c01 : W0.cell? ⟨w.heap.size, 1, none⟩ = some (.slice A n c) := by subst hW0; simp [go_sem]
  have f01 : W0.frozen? ⟨w.heap.size, 1, none⟩ = false := by subst hW0; simp [go_sem]
  have c10 : W0.cell? ⟨w.heap.size + 1, 0, none⟩ = some (.bool b') := by subst hW0; simp [go_sem]
  have f10 : W0.frozen? ⟨w.heap.size + 1, 0, none⟩ = false := by subst hW0; simp [go_sem]
  have c11 : W0.cell? ⟨w.heap.size + 1, 1, none⟩ = some (.slice A' n' c') := by subst hW0; simp [go_sem]
  have f11 : W0.frozen? ⟨w.heap.size + 1, 1, none⟩ = false := by subst hW0; simp [go_sem]
  have c20 : W0.cell? ⟨w.heap.size + 1 + 1, 0, none⟩ = some (.bool false) := by subst hW0; simp [go_sem]
  have f20 : W0.frozen? ⟨w.heap.size + 1 + 1, 0, none⟩ = false := by subst hW0; simp [go_sem]
  have c21 : W0.cell? ⟨w.heap.size + 1 + 1, 1, none⟩ = some (.slice none 0 0) := by subst hW0; simp [go_sem]
  have f21 : W0.frozen? ⟨w.heap.size + 1 + 1, 1, none⟩ = false := by subst hW0; simp [go_sem]
  have x0 : Box W0 (w.heap.size) 48 := by subst hW0; exact ((boxAt _ _ _ (by simp)).alloc _).alloc _
  have x1 : Box W0 (w.heap.size + 1) 48 := by subst hW0; exact (boxAt _ _ _ (by simp)).alloc _
  have x2 : Box W0 (w.heap.size + 1 + 1) 48 := by subst hW0; exact boxAt _ _ _ (by simp)
  have hm0 : Made (w.heap.size + 1 + 1) (w.heap.size + 1 + 1 + 1) 2 W0 := by subst hW0; exact made1 (by simp)
  have hs0 : w.heap.size + 1 + 1 + 1 ≤ W0.heap.size := by subst hW0; simp
  clear hW0
  have wa := wa.belw b0
  have wb := wb.belw b0
  have r0 : Below W0.heap.size W0 W0 := brefl _
  go_region_held3 (fun w' => Seen (w.heap.size + 1 + 1) (w.heap.size + 1 + 1 + 1) 2 W0 w') (first | exact Seen.of (by omega) hs0 hm0 (by assumption) | exact Seen.of (by omega) hs0 hm0 (below_drewN (by assumption) _))
    (first
      | (go_at_call 66; (with_reducible refine (mag_c _ b A n c l ?_ ?_).mono ?_); (exact wa); (omega); rintro e w1 ⟨A1, n1, c1, rfl, h1, hb1⟩; replace hb1 := bnext (below_drewN (brefl _) 1) hb1; have r1 := bnext r0 hb1; replace wa := wa.belw hb1; replace wb := wb.belw hb1)
      | (go_at_call 66; (with_reducible refine (mag_c _ b' A' n' c' l' ?_ ?_).mono ?_); (exact wb); (omega); rintro e w2 ⟨A2, n2, c2, rfl, h2, hb2⟩; have r2 := bnext r1 hb2; replace wa := wa.belw hb2; replace wb := wb.belw hb2; replace h1 := h1.belw hb2))
  obtain ⟨⟨sc, sf⟩, sr, sz⟩ := Seen.of (by omega) hs0 hm0 r2
  have hn1 : n1 ≤ 1099511627000 := h1.m_len (by rw [← HL.out]; exact hn)
  have hn2 : n2 ≤ 1099511627000 := h2.m_len (by rw [← HL'.out]; exact hn')
  have hat : GcdI G W0 w2 (.slice A1 n1 c1) (.slice A2 n2 c2) := ⟨A1, n1, c1, _, A2, n2, c2, _, rfl, rfl, hn1, hn2, ⟨h1, h2, hcm1, hcm2, HGG.out⟩, r2⟩
  go_wp2_with fail
  clear sc sf sr sz
  go_loopw [5, 6] (fun x y wr => GcdI G W0 wr x y) (fun _ y wr => valOf wr y)
  case atStart => exact hat
  case round =>
    obtain ⟨A3, n3, c3, l3, A4, n4, c4, l4, rfl, rfl, hn3, hn4, hK, rr⟩ := hrel
    have hm5 : valOf wr (.slice A4 n4 c4) = val l4 := hK.2.1.valOf
    by_cases h0 : n4 = 0
    · have e1 : decide (0 < n4) = false := by simp; omega
      have hl4 : l4 = [] := List.eq_nil_of_length_eq_zero (by rw [← hK.2.1.2.1]; exact h0)
      have hg : val l3 = G := by have := hK.2.2.2.2; rw [hl4] at this; simpa [val] using this
      have HG := Lib.hid hg
      clear hg h0
      obtain ⟨⟨sc, sf⟩, sr, sz⟩ := Seen.of (by omega) hs0 hm0 rr
      go_wp2_with (go_at_call 62; (with_reducible refine (whole_e _ false A3 n3 c3 l3 (G : Nat) ?_ ?_ ?_).mono ?_); (exact hK.1); (omega); (rw [HG.out]; rfl); rintro e w9 ⟨A5, n5, c5, rfl, h5, hb9⟩; have r9 := bnext rr hb9; clear sc sf sr sz; obtain ⟨⟨sc, sf⟩, sr, sz⟩ := Seen.of (by omega) hs0 hm0 r9)
      refine bodyPost_ret (v := .agg #[.bool _, .slice A5 n5 c5]) (by simp [results, Tryz.results54, go_sem, sr]; rfl) rfl ?_
      have x := x2.below r9
      refine retW ?_ ?_ ?_
      · rfl
      · exact h5.keep (kp2 x (by decide) _ _ _ _)
      · exact ((b0.trans (r9.mono b0.size)).setCell (by dsimp only; omega) _).setCell (by dsimp only; omega) _
    · have e1 : decide (0 < n4) = true := by simp; omega
      have hv4 : val l4 ≠ 0 := by
        intro e
        have := (val_eq_zero hK.2.2.2.1).1 e
        have h9 := hK.2.1.2.1
        rw [this] at h9
        exact h0 h9
      have HV := Lib.hid hv4
      have H0 := Lib.hid h0
      clear h0 hv4
      go_wp2_with (go_at_call 100; (with_reducible refine (divide_c _ A3 n3 c3 l3 ?_ ?_ A4 n4 c4 l4 ?_ ?_ ?_ ?_ ?_).mono ?_); (exact hK.1); (exact hn3); (exact hK.2.1); (exact hn4); (exact hK.2.2.1); (exact hK.2.2.2.1); (exact HV.out); rintro e w9 ⟨A5, n5, c5, A6, n6, c6, rfl, h5, h6, hb9⟩)
      go_roundw
      case rel =>
        refine ⟨A4, n4, c4, l4, A6, n6, c6, _, rfl, rfl, hn4, ?_, ⟨hK.2.1.belw hb9, h6, hK.2.2.2.1, canon_digs _, ?_⟩, bnext rr hb9⟩
        · exact Nat.le_trans (mod_len h6 HV.out (hK.2.1.vlt (Nat.le_refl _))) hn4
        · rw [val_digs, Nat.gcd_comm, ← Nat.gcd_rec, Nat.gcd_comm]; exact hK.2.2.2.2
      case measure =>
        rw [h6.valOf, hm5, val_digs]
        exact Nat.mod_lt _ (Nat.pos_of_ne_zero HV.out)
  
end Go.Proofs.YtpnnfbodphflpaaGreatDoor

/- Walks: integer.Div. -/
namespace Go.Proofs.YtpnnfbodphflpaaGreatDoor
open Go Go.RowKit Bn
attribute [local go_sem ↓] Go.wp_at_zero Go.wp_at_succ

theorem divz {a b q r : Int} (hb : b ≠ 0) (h : r + b * q = a) (h0 : 0 ≤ r) (h1 : r < b.natAbs) : a / b = q ∧ a % b = r := by
  rcases Int.lt_or_gt_of_ne hb with hn | hp
  · have h2 : r + -b * -q = a := by rw [Int.neg_mul_neg]; exact h
    obtain ⟨h3, h4⟩ := (Int.ediv_emod_unique (a := a) (b := -b) (q := -q) (r := r) (by omega)).2 ⟨h2, h0, by omega⟩
    rw [Int.ediv_neg] at h3
    rw [Int.emod_neg] at h4
    exact ⟨by omega, h4⟩
  · exact (Int.ediv_emod_unique (by omega)).2 ⟨h, h0, by omega⟩
theorem div_plain {sa sb : Bool} {x y : Nat} (hy : y ≠ 0) (h : sa = false ∨ x % y = 0) : sgn sa x / sgn sb y = sgn (!(sa == sb)) (x / y) ∧ sgn sa x % sgn sb y = ((x % y : Nat) : Int) := by
  have h1 : ((x % y : Nat) : Int) + (y : Int) * ((x / y : Nat) : Int) = (x : Int) := by exact_mod_cast Nat.mod_add_div x y
  have h2 : x % y < y := Nat.mod_lt _ (Nat.pos_of_ne_zero hy)
  apply divz
  · cases sb <;> simp [sgn] <;> omega
  · cases sa
    · cases sb <;> simp only [sgn] <;> simp [Int.neg_mul, Int.mul_neg] <;> simpa using h1
    · have h3 : x % y = 0 := by simpa using h
      rw [h3] at h1 ⊢
      cases sb <;> simp only [sgn] <;> simp [Int.neg_mul, Int.mul_neg] at h1 ⊢ <;> omega
  · omega
  · cases sb <;> simp [sgn] <;> omega
theorem div_adj {sb : Bool} {x y : Nat} (hy : y ≠ 0) (h : x % y ≠ 0) : sgn true x / sgn sb y = sgn (!(true == sb)) (x / y + 1) ∧ sgn true x % sgn sb y = ((y - x % y : Nat) : Int) := by
  have h1 : ((x % y : Nat) : Int) + (y : Int) * ((x / y : Nat) : Int) = (x : Int) := by exact_mod_cast Nat.mod_add_div x y
  have h2 : x % y < y := Nat.mod_lt _ (Nat.pos_of_ne_zero hy)
  have h3 : ((y - x % y : Nat) : Int) = (y : Int) - ((x % y : Nat) : Int) := by omega
  have h4 : (y : Int) * (((x / y : Nat) : Int) + 1) = (y : Int) * ((x / y : Nat) : Int) + y := by rw [Int.mul_add, Int.mul_one]
  apply divz
  · cases sb <;> simp [sgn] <;> omega
  · rw [h3]
    cases sb
    · show _ + (y : Int) * -((x / y + 1 : Nat) : Int) = -(x : Int)
      rw [Int.mul_neg, Int.natCast_add, show ((1 : Nat) : Int) = 1 from rfl, h4]
      generalize (y : Int) * ((x / y : Nat) : Int) = Q at *
      omega
    · show _ + -(y : Int) * ((x / y + 1 : Nat) : Int) = -(x : Int)
      rw [Int.neg_mul, Int.natCast_add, show ((1 : Nat) : Int) = 1 from rfl, h4]
      generalize (y : Int) * ((x / y : Nat) : Int) = Q at *
      omega
  · omega
  · cases sb <;> simp [sgn] <;> omega
theorem divide_e (w : World) (A : Option Addr) (n c : Nat) (l : List Nat) (wa : Wd w A n c l) (hn : n ≤ 1099511627000) (A' : Option Addr) (n' c' : Nat) (l' : List Nat) (wb : Wd w A' n' c' l') (hn' : n' ≤ 1099511627000) (hc : Canon l) (hc' : Canon l') (x y : Nat) (hx : val l = x) (hy : val l' = y) (h0 : y ≠ 0) :
    Calls Tryz.prog 100 #[.slice A n c, .slice A' n' c'] w (RetD w x y) := by subst hx hy; exact divide_c w A n c l wa hn A' n' c' l' wb hn' hc hc' h0
theorem plus_e (w : World) (A : Option Addr) (n c : Nat) (l : List Nat) (wa : Wd w A n c l) (hn : n ≤ 1099511627776) (A' : Option Addr) (n' c' : Nat) (l' : List Nat) (wb : Wd w A' n' c' l') (hn' : n' ≤ 1099511627776) (z : Nat) (hz : val l + val l' = z) :
    Calls Tryz.prog 59 #[.slice A n c, .slice A' n' c'] w (RetL w (digs z)) := by subst hz; exact plus_c w A n c l wa hn A' n' c' l' wb hn'
theorem less_e (w : World) (A : Option Addr) (n c : Nat) (l : List Nat) (wa : Wd w A n c l) (hn : n ≤ 1099511627776) (A' : Option Addr) (n' c' : Nat) (l' : List Nat) (wb : Wd w A' n' c' l') (hn' : n' ≤ n) (hv : val l' ≤ val l) (z : Nat) (hz : val l - val l' = z) :
    Calls Tryz.prog 101 #[.slice A n c, .slice A' n' c'] w (RetL w (digs z)) := by subst hz; exact less_c w A n c l wa hn A' n' c' l' wb hn' hv
theorem succ_len {w : World} {A : Option Addr} {n c z N : Nat} (h : Wd w A n c (digs z)) (hN : n ≤ N) : (digs (z + 1)).length ≤ N + 1 := by
  have h1 := h.vlt hN
  rw [val_digs] at h1
  refine length_digs_le (Nat.lt_of_le_of_lt h1 ?_)
  rw [Nat.pow_succ]
  have := pow_pos' N
  omega
/-- What Div returns. -/
def RetDiv (w : World) (q r : Int) (e : Ending) (w' : World) : Prop := ∃ A1 n1 c1 A2 n2 c2, e = .returned (.tuple #[.agg #[.bool (wh q).neg, .slice A1 n1 c1], .agg #[.bool (wh r).neg, .slice A2 n2 c2], .nilIface]) ∧ Wd w' A1 n1 c1 (wh q).mag ∧ Wd w' A2 n2 c2 (wh r).mag ∧ Below w.heap.size w w'
theorem kp4 {w : World} {g g' : Nat} {t t' : TypeId} (x : Box w g t) (x' : Box w g' t') (ht : KT t = false) (ht' : KT t' = false) (i j i' j' : Nat) (u v u' v' : Value) :
    Kp w ((((w.setCell ⟨g, i, none⟩ u).setCell ⟨g, j, none⟩ v).setCell ⟨g', i', none⟩ u').setCell ⟨g', j', none⟩ v') :=
  (kp2 x ht i j u v).trans (kp2 ((x'.set _ _).set _ _) ht' i' j' u' v')
set_option maxHeartbeats 4000000 in
/-- integer.Div, by a number that is not zero. -/
theorem div_C (w : World) (b : Bool) (A : Option Addr) (n c : Nat) (l : List Nat) (wa : Wd w A n c l) (hn : n ≤ 1099511627000) (b' : Bool) (A' : Option Addr) (n' c' : Nat) (l' : List Nat) (wb : Wd w A' n' c' l') (hn' : n' ≤ 1099511627000) (h0 : WD.z ⟨b', l'⟩ ≠ 0) :
    Calls Tryz.prog 51 #[.agg #[.bool b, .slice A n c], .agg #[.bool b', .slice A' n' c']] w (RetDiv w (WD.z ⟨b, l⟩ / WD.z ⟨b', l'⟩) (WD.z ⟨b, l⟩ % WD.z ⟨b', l'⟩)) := by
  have HL := Lib.hid wa.2.1
  have HL' := Lib.hid wb.2.1
  have hcm1 : Canon (WD.m ⟨b, l⟩) := WD.canon_m wa.1
  have hcm2 : Canon (WD.m ⟨b', l'⟩) := WD.canon_m wb.1
  rw [WD.z_eq] at h0 ⊢
  rw [WD.z_eq ⟨b', l'⟩]
  have hv2 : val (WD.m ⟨b', l'⟩) ≠ 0 := by intro e; rw [e] at h0; exact h0 (by cases (WD.s ⟨b', l'⟩) <;> rfl)
  obtain ⟨sa, hsa⟩ : ∃ s, WD.s ⟨b, l⟩ = s := ⟨_, rfl⟩
  obtain ⟨sb, hsb⟩ : ∃ s, WD.s ⟨b', l'⟩ = s := ⟨_, rfl⟩
  rw [hsa, hsb]
  obtain ⟨x, hx⟩ : ∃ x, val (WD.m ⟨b, l⟩) = x := ⟨_, rfl⟩
  obtain ⟨y, hy⟩ : ∃ y, val (WD.m ⟨b', l'⟩) = y := ⟨_, rfl⟩
  rw [hx, hy]
  have HS := Lib.hid (And.intro hsa hsb)
  have HX := Lib.hid (And.intro hx hy)
  have HY := Lib.hid (show y ≠ 0 from hy ▸ hv2)
  have hrm := Nat.mod_lt x (Nat.pos_of_ne_zero HY.out)
  have HR := Lib.hid hrm
  clear hsa hsb hx hy hv2 h0 hrm
  go_enter Tryz.func51, Tryz.ntmps51
  go_wp2_with fail
  have b0 : Below w.heap.size w ((((w.alloc (.cells #[.bool b, .slice A n c] 48)).alloc (.cells #[.bool b', .slice A' n' c'] 48)).alloc (.cells #[.bool false, .slice none 0 0] 48)).alloc (.cells #[.bool false, .slice none 0 0] 48)) := (((((Below.refl _ _).alloc (Nat.le_refl _) _).alloc (by simp) _).alloc (by simp; omega) _).alloc (by simp; omega) _)
  generalize hW0 : ((((w.alloc (.cells #[.bool b, .slice A n c] 48)).alloc (.cells #[.bool b', .slice A' n' c'] 48)).alloc (.cells #[.bool false, .slice none 0 0] 48)).alloc (.cells #[.bool false, .slice none 0 0] 48)) = W0 at b0 ⊢
  have c00 : W0.cell? ⟨w.heap.size, 0, none⟩ = some (.bool b) := by subst hW0; simp [go_sem]
  have f00 : W0.frozen? ⟨w.heap.size, 0, none⟩ = false := by subst hW0; simp [go_sem]
  have c01 : W0.cell? ⟨w.heap.size, 1, none⟩ = some (.slice A n c) := by subst hW0; simp [go_sem]
  have f01 : W0.frozen? ⟨w.heap.size, 1, none⟩ = false := by subst hW0; simp [go_sem]
  have c10 : W0.cell? ⟨w.heap.size + 1, 0, none⟩ = some (.bool b') := by subst hW0; simp [go_sem]
  have f10 : W0.frozen? ⟨w.heap.size + 1, 0, none⟩ = false := by subst hW0; simp [go_sem]
  have c11 : W0.cell? ⟨w.heap.size + 1, 1, none⟩ = some (.slice A' n' c') := by subst hW0; simp [go_sem]
  have f11 : W0.frozen? ⟨w.heap.size + 1, 1, none⟩ = false := by subst hW0; simp [go_sem]
  have c20 : W0.cell? ⟨w.heap.size + 1 + 1, 0, none⟩ = some (.bool false) := by subst hW0; simp [go_sem]
  have f20 : W0.frozen? ⟨w.heap.size + 1 + 1, 0, none⟩ = false := by subst hW0; simp [go_sem]
  have c21 : W0.cell? ⟨w.heap.size + 1 + 1, 1, none⟩ = some (.slice none 0 0) := by subst hW0; simp [go_sem]
  have f21 : W0.frozen? ⟨w.heap.size + 1 + 1, 1, none⟩ = false := by subst hW0; simp [go_sem]
  have c30 : W0.cell? ⟨w.heap.size + 1 + 1 + 1, 0, none⟩ = some (.bool false) := by subst hW0; simp [go_sem]
  have f30 : W0.frozen? ⟨w.heap.size + 1 + 1 + 1, 0, none⟩ = false := by subst hW0; simp [go_sem]
  have c31 : W0.cell? ⟨w.heap.size + 1 + 1 + 1, 1, none⟩ = some (.slice none 0 0) := by subst hW0; simp [go_sem]
  have f31 : W0.frozen? ⟨w.heap.size + 1 + 1 + 1, 1, none⟩ = false := by subst hW0; simp [go_sem]
  have x0 : Box W0 (w.heap.size) 48 := by subst hW0; exact (((boxAt _ _ _ (by simp)).alloc _).alloc _).alloc _
  have x1 : Box W0 (w.heap.size + 1) 48 := by subst hW0; exact ((boxAt _ _ _ (by simp)).alloc _).alloc _
  have x2 : Box W0 (w.heap.size + 1 + 1) 48 := by subst hW0; exact (boxAt _ _ _ (by simp)).alloc _
  have x3 : Box W0 (w.heap.size + 1 + 1 + 1) 48 := by subst hW0; exact boxAt _ _ _ (by simp)
  have hm0 : Made (w.heap.size + 1 + 1) (w.heap.size + 1 + 1 + 1 + 1) 2 W0 := by subst hW0; exact made2 (by simp) rfl
  have hs0 : w.heap.size + 1 + 1 + 1 + 1 ≤ W0.heap.size := by subst hW0; simp
  clear hW0
  have wa := wa.belw b0
  have wb := wb.belw b0
  have r0 : Below W0.heap.size W0 W0 := brefl _
  go_wp2_with (first
    | (go_at_call 66; (with_reducible refine (mag_c _ b' A' n' c' l' ?_ ?_).mono ?_); (exact wb); (omega); rintro e w1 ⟨A1, n1, c1, rfl, h1, hb1⟩; have e1 : ((n1 : Int) == 0) = false := (by have := h1.2.1; have h9 := HX.out.2; have h7 := HY.out; have h8 : n1 ≠ 0 := (fun e => by rw [List.eq_nil_of_length_eq_zero (show (WD.m ⟨b', l'⟩).length = 0 by omega)] at h9; exact h7 h9.symm); simp; omega); have r1 := bnext r0 hb1; replace wa := wa.belw hb1; replace wb := wb.belw hb1; (try clear sc sf sr sz); obtain ⟨⟨sc, sf⟩, sr, sz⟩ := Seen.of (by omega) hs0 hm0 r1)
    | (go_at_call 66; (with_reducible refine (mag_c _ b A n c l ?_ ?_).mono ?_); (exact wa); (omega); rintro e w2 ⟨A2, n2, c2, rfl, h2, hb2⟩; have r2 := bnext r1 hb2; replace wa := wa.belw hb2; replace wb := wb.belw hb2; replace h1 := h1.belw hb2; (try clear sc sf sr sz); obtain ⟨⟨sc, sf⟩, sr, sz⟩ := Seen.of (by omega) hs0 hm0 r2)
    | (go_at_call 100; (with_reducible refine (divide_e _ A2 n2 c2 (WD.m ⟨b, l⟩) ?_ ?_ A1 n1 c1 (WD.m ⟨b', l'⟩) ?_ ?_ hcm1 hcm2 x y ?_ ?_ ?_).mono ?_); (exact h2); (exact h2.m_len (by rw [← HL.out]; exact hn)); (exact h1); (exact h1.m_len (by rw [← HL'.out]; exact hn')); (exact HX.out.1); (exact HX.out.2); (exact HY.out); rintro e w3 ⟨A3, n3, c3, A4, n4, c4, rfl, h3, h4, hb3⟩; have r3 := bnext r2 hb3; replace wa := wa.belw hb3; replace wb := wb.belw hb3; replace h1 := h1.belw hb3; replace h2 := h2.belw hb3; (try clear sc sf sr sz); obtain ⟨⟨sc, sf⟩, sr, sz⟩ := Seen.of (by omega) hs0 hm0 r3))
  have hn3 : n3 ≤ 1099511627000 := by
    rw [h3.2.1]; exact dlen (Nat.lt_of_le_of_lt (Nat.div_le_self _ _) (HX.out.1 ▸ h2.vlt (Nat.le_refl _))) (h2.m_len (by rw [← HL.out]; exact hn))
  have hn1 : n1 ≤ 1099511627000 := h1.m_len (by rw [← HL'.out]; exact hn')
  have hn4 : n4 ≤ n1 := mod_len h4 HY.out (HX.out.2 ▸ h1.vlt (Nat.le_refl _))
  cases sa
  · go_wp2_with (first
      | (go_at_call 71; (with_reducible refine (neg_e _ b A n c l false ?_ ?_ ?_).mono ?_); (exact wa); (omega); (exact HS.out.1); rintro e w4 ⟨rfl, hb4⟩; have r4 := bnext r3 hb4; replace wa := wa.belw hb4; replace wb := wb.belw hb4; replace h1 := h1.belw hb4; replace h2 := h2.belw hb4; replace h3 := h3.belw hb4; replace h4 := h4.belw hb4; (try clear sc sf sr sz); obtain ⟨⟨sc, sf⟩, sr, sz⟩ := Seen.of (by omega) hs0 hm0 r4))
    have HZ := Lib.hid (div_plain (sa := false) (sb := sb) (x := x) HY.out (.inl rfl))
    (try clear sc sf sr sz)
    have hRB : w.heap.size + 1 + 1 ≤ w.heap.size + 1 + 1 + 1 + 1 := by omega
    go_region_held3 (fun w' => Sees (w.heap.size + 1 + 1) W0 w') (first | exact Sees.of (Nat.le_trans hRB hs0) (by assumption) | exact Sees.of (Nat.le_trans hRB hs0) (below_drewN (by assumption) _) | exact (Sees.set (Sees.of (Nat.le_trans hRB hs0) (by assumption)) (by simp)) | exact (Sees.set (Sees.set (Sees.of (Nat.le_trans hRB hs0) (by assumption)) (by simp)) (by simp)) | exact (Sees.set (Sees.set (Sees.set (Sees.of (Nat.le_trans hRB hs0) (by assumption)) (by simp)) (by simp)) (by simp)) | exact (Sees.set (Sees.set (Sees.set (Sees.set (Sees.of (Nat.le_trans hRB hs0) (by assumption)) (by simp)) (by simp)) (by simp)) (by simp)))
      (first
        | (go_at_call 71; (with_reducible refine (neg_e _ b A n c l false ?_ ?_ ?_).mono ?_); (exact wa); (omega); (exact HS.out.1); rintro e w5 ⟨rfl, hb5⟩; replace hb5 := bnext (below_drewN (brefl _) 1) hb5; have r5 := bnext r4 hb5; replace wa := wa.belw hb5; replace wb := wb.belw hb5; replace h1 := h1.belw hb5; replace h2 := h2.belw hb5; replace h3 := h3.belw hb5; replace h4 := h4.belw hb5)
        | (go_at_call 71; (with_reducible refine (neg_e _ b' A' n' c' l' sb ?_ ?_ ?_).mono ?_); (exact wb); (omega); (exact HS.out.2); rintro e w6 ⟨rfl, hb6⟩; have r6 := bnext r5 hb6; replace wa := wa.belw hb6; replace wb := wb.belw hb6; replace h1 := h1.belw hb6; replace h2 := h2.belw hb6; replace h3 := h3.belw hb6; replace h4 := h4.belw hb6)
        | (go_at_call 62; (with_reducible refine (whole_e _ sb A3 n3 c3 (digs (x / y)) (sgn false x / sgn sb y) ?_ ?_ ?_).mono ?_); (exact h3); (omega); (rw [HZ.out.1, val_digs]; cases sb <;> rfl); rintro e w7 ⟨A8, n8, c8, rfl, h8, hb7⟩; have r7 := bnext r6 hb7; replace wa := wa.belw hb7; replace wb := wb.belw hb7; replace h1 := h1.belw hb7; replace h2 := h2.belw hb7; replace h3 := h3.belw hb7; replace h4 := h4.belw hb7)
        | (go_at_call 62; (with_reducible refine (whole_e _ false A4 n4 c4 (digs (x % y)) (sgn false x % sgn sb y) ?_ ?_ ?_).mono ?_); (exact h4); (omega); (rw [HZ.out.2, val_digs]; rfl); rintro e w8 ⟨A9, n9, c9, rfl, h9, hb8⟩; have r8 := bnext r7 hb8; replace wa := wa.belw hb8; replace wb := wb.belw hb8; replace h1 := h1.belw hb8; replace h2 := h2.belw hb8; replace h3 := h3.belw hb8; replace h4 := h4.belw hb8; replace h8 := h8.belw hb8; obtain ⟨⟨sc, sf⟩, sr, sz⟩ := Seen.of (by omega) hs0 hm0 r8))
    clear hRB
    go_wp2_with fail
    refine bodyPost_ret (v := .tuple #[.agg #[.bool _, .slice A8 n8 c8], .agg #[.bool _, .slice A9 n9 c9], .nilIface]) (by simp [results, Tryz.results51, go_sem, sr]; first | rfl | exact ⟨rfl, rfl⟩) rfl ?_
    have y2 := x2.below r8
    have y3 := x3.below r8
    refine ⟨A8, n8, c8, A9, n9, c9, rfl, ?_, ?_, ?_⟩
    · exact h8.keep (kp4 y2 y3 (by decide) (by decide) _ _ _ _ _ _ _ _)
    · exact h9.keep (kp4 y2 y3 (by decide) (by decide) _ _ _ _ _ _ _ _)
    · exact ((((b0.trans (r8.mono b0.size)).setCell (by dsimp only; omega) _).setCell (by dsimp only; omega) _).setCell (by dsimp only; omega) _).setCell (by dsimp only; omega) _
  · by_cases hr0 : x % y = 0
    · have HR0 := Lib.hid hr0
      have hn40 : n4 = 0 := by rw [h4.2.1, hr0, digs_zero]; rfl
      clear hr0
      subst hn40
      go_wp2_with (first
        | (go_at_call 71; (with_reducible refine (neg_e _ b A n c l true ?_ ?_ ?_).mono ?_); (exact wa); (omega); (exact HS.out.1); rintro e w4 ⟨rfl, hb4⟩; have r4 := bnext r3 hb4; replace wa := wa.belw hb4; replace wb := wb.belw hb4; replace h1 := h1.belw hb4; replace h2 := h2.belw hb4; replace h3 := h3.belw hb4; replace h4 := h4.belw hb4; (try clear sc sf sr sz); obtain ⟨⟨sc, sf⟩, sr, sz⟩ := Seen.of (by omega) hs0 hm0 r4))
      have HZ := Lib.hid (div_plain (sa := true) (sb := sb) (x := x) HY.out (.inr HR0.out))
      (try clear sc sf sr sz)
      have hRB : w.heap.size + 1 + 1 ≤ w.heap.size + 1 + 1 + 1 + 1 := by omega
      go_region_held3 (fun w' => Sees (w.heap.size + 1 + 1) W0 w') (first | exact Sees.of (Nat.le_trans hRB hs0) (by assumption) | exact Sees.of (Nat.le_trans hRB hs0) (below_drewN (by assumption) _) | exact (Sees.set (Sees.of (Nat.le_trans hRB hs0) (by assumption)) (by simp)) | exact (Sees.set (Sees.set (Sees.of (Nat.le_trans hRB hs0) (by assumption)) (by simp)) (by simp)) | exact (Sees.set (Sees.set (Sees.set (Sees.of (Nat.le_trans hRB hs0) (by assumption)) (by simp)) (by simp)) (by simp)) | exact (Sees.set (Sees.set (Sees.set (Sees.set (Sees.of (Nat.le_trans hRB hs0) (by assumption)) (by simp)) (by simp)) (by simp)) (by simp)))
        (first
          | (go_at_call 71; (with_reducible refine (neg_e _ b A n c l true ?_ ?_ ?_).mono ?_); (exact wa); (omega); (exact HS.out.1); rintro e w5 ⟨rfl, hb5⟩; replace hb5 := bnext (below_drewN (brefl _) 1) hb5; have r5 := bnext r4 hb5; replace wa := wa.belw hb5; replace wb := wb.belw hb5; replace h1 := h1.belw hb5; replace h2 := h2.belw hb5; replace h3 := h3.belw hb5; replace h4 := h4.belw hb5)
          | (go_at_call 71; (with_reducible refine (neg_e _ b' A' n' c' l' sb ?_ ?_ ?_).mono ?_); (exact wb); (omega); (exact HS.out.2); rintro e w6 ⟨rfl, hb6⟩; have r6 := bnext r5 hb6; replace wa := wa.belw hb6; replace wb := wb.belw hb6; replace h1 := h1.belw hb6; replace h2 := h2.belw hb6; replace h3 := h3.belw hb6; replace h4 := h4.belw hb6)
          | (go_at_call 62; (with_reducible refine (whole_e _ (!sb) A3 n3 c3 (digs (x / y)) (sgn true x / sgn sb y) ?_ ?_ ?_).mono ?_); (exact h3); (omega); (rw [HZ.out.1, val_digs]; cases sb <;> rfl); rintro e w7 ⟨A8, n8, c8, rfl, h8, hb7⟩; have r7 := bnext r6 hb7; replace wa := wa.belw hb7; replace wb := wb.belw hb7; replace h1 := h1.belw hb7; replace h2 := h2.belw hb7; replace h3 := h3.belw hb7; replace h4 := h4.belw hb7)
          | (go_at_call 62; (with_reducible refine (whole_e _ false A4 0 c4 (digs (x % y)) (sgn true x % sgn sb y) ?_ ?_ ?_).mono ?_); (exact h4); (omega); (rw [HZ.out.2, val_digs]; rfl); rintro e w8 ⟨A9, n9, c9, rfl, h9, hb8⟩; have r8 := bnext r7 hb8; replace wa := wa.belw hb8; replace wb := wb.belw hb8; replace h1 := h1.belw hb8; replace h2 := h2.belw hb8; replace h3 := h3.belw hb8; replace h4 := h4.belw hb8; replace h8 := h8.belw hb8; obtain ⟨⟨sc, sf⟩, sr, sz⟩ := Seen.of (by omega) hs0 hm0 r8))
      clear hRB
      go_wp2_with fail
      refine bodyPost_ret (v := .tuple #[.agg #[.bool _, .slice A8 n8 c8], .agg #[.bool _, .slice A9 n9 c9], .nilIface]) (by simp [results, Tryz.results51, go_sem, sr]; first | rfl | exact ⟨rfl, rfl⟩) rfl ?_
      have y2 := x2.below r8
      have y3 := x3.below r8
      refine ⟨A8, n8, c8, A9, n9, c9, rfl, ?_, ?_, ?_⟩
      · exact h8.keep (kp4 y2 y3 (by decide) (by decide) _ _ _ _ _ _ _ _)
      · exact h9.keep (kp4 y2 y3 (by decide) (by decide) _ _ _ _ _ _ _ _)
      · exact ((((b0.trans (r8.mono b0.size)).setCell (by dsimp only; omega) _).setCell (by dsimp only; omega) _).setCell (by dsimp only; omega) _).setCell (by dsimp only; omega) _
    · have HR0 := Lib.hid hr0
      have hn40 : 0 < n4 := by
        rcases Nat.eq_zero_or_pos n4 with e | e
        · exfalso
          have h9 := h4.2.1
          rw [e] at h9
          exact hr0 (digs_eq_nil.1 (List.eq_nil_of_length_eq_zero h9.symm))
        · exact e
      have e2 : decide (0 < n4) = true := by simp [hn40]
      clear hr0
      go_wp2_with (first
        | (go_at_call 71; (with_reducible refine (neg_e _ b A n c l true ?_ ?_ ?_).mono ?_); (exact wa); (omega); (exact HS.out.1); rintro e w4 ⟨rfl, hb4⟩; have r4 := bnext r3 hb4; replace wa := wa.belw hb4; replace wb := wb.belw hb4; replace h1 := h1.belw hb4; replace h2 := h2.belw hb4; replace h3 := h3.belw hb4; replace h4 := h4.belw hb4; (try clear sc sf sr sz); obtain ⟨⟨sc, sf⟩, sr, sz⟩ := Seen.of (by omega) hs0 hm0 r4)
        | (go_at_call 59; (with_reducible refine (plus_e _ A3 n3 c3 (digs (x / y)) ?_ ?_ (some ⟨w4.heap.size, 0, none⟩) 1 1 [1] ?_ ?_ (x / y + 1) ?_).mono ?_); (exact (h3.keep ((Kp.refl _).alloc _))); (omega); (exact one_word _ _ _ rfl (by decide)); (omega); (rw [val_digs]; rfl); rintro e w5 ⟨A5, n5, c5, rfl, h5, hb5⟩; replace hb5 := ((Below.refl _ _).alloc (Nat.le_refl _) _).trans (hb5.mono (by simp)); have r5 := bnext r4 hb5; replace wa := wa.belw hb5; replace wb := wb.belw hb5; replace h1 := h1.belw hb5; replace h2 := h2.belw hb5; replace h3 := h3.belw hb5; replace h4 := h4.belw hb5; (try clear sc sf sr sz); obtain ⟨⟨sc, sf⟩, sr, sz⟩ := Seen.of (by omega) hs0 hm0 r5)
        | (go_at_call 101; (with_reducible refine (less_e _ A1 n1 c1 (WD.m ⟨b', l'⟩) ?_ ?_ A4 n4 c4 (digs (x % y)) ?_ ?_ ?_ (y - x % y) ?_).mono ?_); (exact h1); (omega); (exact h4); (exact hn4); (rw [val_digs, HX.out.2]; exact Nat.le_of_lt HR.out); (rw [val_digs, HX.out.2]); rintro e w6 ⟨A6, n6, c6, rfl, h6, hb6⟩; have r6 := bnext r5 hb6; replace wa := wa.belw hb6; replace wb := wb.belw hb6; replace h1 := h1.belw hb6; replace h2 := h2.belw hb6; replace h3 := h3.belw hb6; replace h4 := h4.belw hb6; replace h5 := h5.belw hb6; (try clear sc sf sr sz); obtain ⟨⟨sc, sf⟩, sr, sz⟩ := Seen.of (by omega) hs0 hm0 r6))
      have hn5 : n5 ≤ 1099511627001 := by rw [h5.2.1]; exact succ_len h3 hn3
      have hn6 : n6 ≤ n1 := by rw [h6.2.1]; exact dlen (Nat.lt_of_le_of_lt (Nat.sub_le _ _) (HX.out.2 ▸ h1.vlt (Nat.le_refl _))) (Nat.le_refl _)
      have HZ := Lib.hid (div_adj (sb := sb) (x := x) HY.out HR0.out)
      (try clear sc sf sr sz)
      have hRB : w.heap.size + 1 + 1 ≤ w.heap.size + 1 + 1 + 1 + 1 := by omega
      go_region_held3 (fun w' => Sees (w.heap.size + 1 + 1) W0 w') (first | exact Sees.of (Nat.le_trans hRB hs0) (by assumption) | exact Sees.of (Nat.le_trans hRB hs0) (below_drewN (by assumption) _) | exact (Sees.set (Sees.of (Nat.le_trans hRB hs0) (by assumption)) (by simp)) | exact (Sees.set (Sees.set (Sees.of (Nat.le_trans hRB hs0) (by assumption)) (by simp)) (by simp)) | exact (Sees.set (Sees.set (Sees.set (Sees.of (Nat.le_trans hRB hs0) (by assumption)) (by simp)) (by simp)) (by simp)) | exact (Sees.set (Sees.set (Sees.set (Sees.set (Sees.of (Nat.le_trans hRB hs0) (by assumption)) (by simp)) (by simp)) (by simp)) (by simp)))
        (first
          | (go_at_call 71; (with_reducible refine (neg_e _ b A n c l true ?_ ?_ ?_).mono ?_); (exact wa); (omega); (exact HS.out.1); rintro e w7 ⟨rfl, hb7⟩; replace hb7 := bnext (below_drewN (brefl _) 1) hb7; have r7 := bnext r6 hb7; replace wa := wa.belw hb7; replace wb := wb.belw hb7; replace h1 := h1.belw hb7; replace h2 := h2.belw hb7; replace h3 := h3.belw hb7; replace h4 := h4.belw hb7; replace h5 := h5.belw hb7; replace h6 := h6.belw hb7)
          | (go_at_call 71; (with_reducible refine (neg_e _ b' A' n' c' l' sb ?_ ?_ ?_).mono ?_); (exact wb); (omega); (exact HS.out.2); rintro e w8 ⟨rfl, hb8⟩; have r8 := bnext r7 hb8; replace wa := wa.belw hb8; replace wb := wb.belw hb8; replace h1 := h1.belw hb8; replace h2 := h2.belw hb8; replace h3 := h3.belw hb8; replace h4 := h4.belw hb8; replace h5 := h5.belw hb8; replace h6 := h6.belw hb8)
          | (go_at_call 62; (with_reducible refine (whole_e _ (!sb) A5 n5 c5 (digs (x / y + 1)) (sgn true x / sgn sb y) ?_ ?_ ?_).mono ?_); (exact h5); (omega); (rw [HZ.out.1, val_digs]; cases sb <;> rfl); rintro e w9 ⟨A8, n8, c8, rfl, h8, hb9⟩; have r9 := bnext r8 hb9; replace wa := wa.belw hb9; replace wb := wb.belw hb9; replace h1 := h1.belw hb9; replace h2 := h2.belw hb9; replace h3 := h3.belw hb9; replace h4 := h4.belw hb9; replace h5 := h5.belw hb9; replace h6 := h6.belw hb9)
          | (go_at_call 62; (with_reducible refine (whole_e _ false A6 n6 c6 (digs (y - x % y)) (sgn true x % sgn sb y) ?_ ?_ ?_).mono ?_); (exact h6); (omega); (rw [HZ.out.2, val_digs]; rfl); rintro e w10 ⟨A9, n9, c9, rfl, h9, hb10⟩; have r10 := bnext r9 hb10; replace wa := wa.belw hb10; replace wb := wb.belw hb10; replace h1 := h1.belw hb10; replace h2 := h2.belw hb10; replace h3 := h3.belw hb10; replace h4 := h4.belw hb10; replace h5 := h5.belw hb10; replace h6 := h6.belw hb10; replace h8 := h8.belw hb10; obtain ⟨⟨sc, sf⟩, sr, sz⟩ := Seen.of (by omega) hs0 hm0 r10))
      clear hRB
      go_wp2_with fail
      refine bodyPost_ret (v := .tuple #[.agg #[.bool _, .slice A8 n8 c8], .agg #[.bool _, .slice A9 n9 c9], .nilIface]) (by simp [results, Tryz.results51, go_sem, sr]; first | rfl | exact ⟨rfl, rfl⟩) rfl ?_
      have y2 := x2.below r10
      have y3 := x3.below r10
      refine ⟨A8, n8, c8, A9, n9, c9, rfl, ?_, ?_, ?_⟩
      · exact h8.keep (kp4 y2 y3 (by decide) (by decide) _ _ _ _ _ _ _ _)
      · exact h9.keep (kp4 y2 y3 (by decide) (by decide) _ _ _ _ _ _ _ _)
      · exact ((((b0.trans (r10.mono b0.size)).setCell (by dsimp only; omega) _).setCell (by dsimp only; omega) _).setCell (by dsimp only; omega) _).setCell (by dsimp only; omega) _
end Go.Proofs.YtpnnfbodphflpaaGreatDoor

/- Walks: integer.Of. -/
namespace Go.Proofs.YtpnnfbodphflpaaGreatDoor
open Go Go.RowKit Bn

theorem two_word (w : World) (g : Nat) (hg : g = w.heap.size) (z1 z2 : Int) (v : Nat) (h1 : z1 = ((v % 4294967296 : Nat) : Int)) (h2 : z2 = ((v / 4294967296 : Nat) : Int)) (hv : v < 18446744073709551616) :
    Wd (w.alloc (.cells #[.int .u32 z1, .int .u32 z2] 84)) (some ⟨g, 0, none⟩) 2 2 [v % 4294967296, v / 4294967296] := by
  subst h1 h2 hg
  exact (Blk.new w 84 (cellsOf [v % 4294967296, v / 4294967296])).wdN (by intro y hy; simp at hy; omega) rfl
set_option maxHeartbeats 1000000 in
/-- integer.Of -/
theorem of_c (w : World) (i : Int) (h0 : -9223372036854775808 ≤ i) (h1 : i < 9223372036854775808) :
    Calls Tryz.prog 29 #[.int .i64 i] w (RetW w (wh i)) := by
  obtain ⟨v, hv⟩ : ∃ v : Nat, v = i.natAbs := ⟨_, rfl⟩
  have hv2 : v < 18446744073709551616 := by omega
  have hval : val [v % 4294967296, v / 4294967296] = v := by simp [val]; omega
  have HV := Lib.hid hval
  by_cases hneg : i < 0
  · have e1 : IntKind.u64.wrap i = i + 18446744073709551616 := by unfold IntKind.wrap; simp [IntKind.bits, IntKind.signed]; omega
    have e2 : IntKind.u64.wrap (-(i + 18446744073709551616)) = (v : Int) := by unfold IntKind.wrap; simp [IntKind.bits, IntKind.signed]; omega
    have e3 : decide (i < 0) = true := by simp; omega
    have e4 : IntKind.u32.wrap (v : Int) = ((v % 4294967296 : Nat) : Int) := by unfold IntKind.wrap; simp [IntKind.bits, IntKind.signed]
    have e5 : IntKind.u32.wrap ((v : Int) / 4294967296) = ((v / 4294967296 : Nat) : Int) := by unfold IntKind.wrap; simp [IntKind.bits, IntKind.signed]; omega
    have HZ := Lib.hid (show sgn true v = i by simp [sgn]; omega)
    have HV2 := Lib.hid hv2
    clear hv hval hv2 hneg h0 h1
    go_enter Tryz.func29, Tryz.ntmps29
    go_wp2_with (go_at_call 62; (with_reducible refine (whole_e _ true (some ⟨w.heap.size + 1, 0, none⟩) 2 2 [v % 4294967296, v / 4294967296] i ?_ ?_ ?_).mono ?_); (exact two_word (w.alloc _) _ (by simp) _ _ v (by simp) (by simp) HV2.out); (omega); (rw [HV.out]; exact HZ.out); rintro e w1 ⟨A1, n1, c1, rfl, h1, hb⟩; obtain ⟨hc, hf⟩ := bcell hb)
    have hc0 : w1.cell? ⟨w.heap.size, 0, none⟩ = some (.bool false) := (hc w.heap.size 0 (by simp; omega)).trans (by simp [go_sem])
    have hc1 : w1.cell? ⟨w.heap.size, 1, none⟩ = some (.slice none 0 0) := (hc w.heap.size 1 (by simp; omega)).trans (by simp [go_sem])
    refine bodyPost_ret (v := .agg #[.bool _, .slice A1 n1 c1]) (by simp [results, Tryz.results29, go_sem, hc0, hc1]; rfl) rfl ?_
    have x := ((boxAt w #[.bool false, .slice none 0 0] 48 rfl).alloc _).below hb
    refine retW ?_ ?_ ?_
    · rfl
    · exact h1.keep (kp2 x (by decide) _ _ _ _)
    · exact ((((((Below.refl _ _).alloc (Nat.le_refl _) _).alloc (by simp) _).trans (hb.mono (by simp; omega)))).setCell (by dsimp only; omega) _).setCell (by dsimp only; omega) _
  · have e1 : IntKind.u64.wrap i = (v : Int) := by unfold IntKind.wrap; simp [IntKind.bits, IntKind.signed]; omega
    have e3 : decide (i < 0) = false := by simp; omega
    have e4 : IntKind.u32.wrap (v : Int) = ((v % 4294967296 : Nat) : Int) := by unfold IntKind.wrap; simp [IntKind.bits, IntKind.signed]
    have e5 : IntKind.u32.wrap ((v : Int) / 4294967296) = ((v / 4294967296 : Nat) : Int) := by unfold IntKind.wrap; simp [IntKind.bits, IntKind.signed]; omega
    have HZ := Lib.hid (show sgn false v = i by simp [sgn]; omega)
    have HV2 := Lib.hid hv2
    clear hv hval hv2 hneg h0 h1
    go_enter Tryz.func29, Tryz.ntmps29
    go_wp2_with (go_at_call 62; (with_reducible refine (whole_e _ false (some ⟨w.heap.size + 1, 0, none⟩) 2 2 [v % 4294967296, v / 4294967296] i ?_ ?_ ?_).mono ?_); (exact two_word (w.alloc _) _ (by simp) _ _ v (by simp) (by simp) HV2.out); (omega); (rw [HV.out]; exact HZ.out); rintro e w1 ⟨A1, n1, c1, rfl, h1, hb⟩; obtain ⟨hc, hf⟩ := bcell hb)
    have hc0 : w1.cell? ⟨w.heap.size, 0, none⟩ = some (.bool false) := (hc w.heap.size 0 (by simp; omega)).trans (by simp [go_sem])
    have hc1 : w1.cell? ⟨w.heap.size, 1, none⟩ = some (.slice none 0 0) := (hc w.heap.size 1 (by simp; omega)).trans (by simp [go_sem])
    refine bodyPost_ret (v := .agg #[.bool _, .slice A1 n1 c1]) (by simp [results, Tryz.results29, go_sem, hc0, hc1]; rfl) rfl ?_
    have x := ((boxAt w #[.bool false, .slice none 0 0] 48 rfl).alloc _).below hb
    refine retW ?_ ?_ ?_
    · rfl
    · exact h1.keep (kp2 x (by decide) _ _ _ _)
    · exact ((((((Below.refl _ _).alloc (Nat.le_refl _) _).alloc (by simp) _).trans (hb.mono (by simp; omega)))).setCell (by dsimp only; omega) _).setCell (by dsimp only; omega) _
end Go.Proofs.YtpnnfbodphflpaaGreatDoor

/- Integers and fractions as values: what the walks of the layers above lean on. -/
namespace Go.Proofs.YtpnnfbodphflpaaGreatDoor
open Go Go.RowKit Bn

/-- An integer of at most k words in memory whose value counts; the same, laid as its value lays it. -/
def IZ (w : World) (b : Bool) (A : Option Addr) (n c : Nat) (z : Int) (k : Nat) : Prop := ∃ l, Wd w A n c l ∧ WD.z ⟨b, l⟩ = z ∧ n ≤ k
def IV (w : World) (b : Bool) (A : Option Addr) (n c : Nat) (z : Int) (k : Nat) : Prop := b = (wh z).neg ∧ Wd w A n c (wh z).mag ∧ n ≤ k
/-- A fraction: its data; its value; the same, laid as its value lays it. -/
def QD (w : World) (b : Bool) (A : Option Addr) (n c : Nat) (A' : Option Addr) (n' c' : Nat) (a : RD) (k : Nat) : Prop := a.neg = b ∧ Wd w A n c a.num ∧ Wd w A' n' c' a.den ∧ n ≤ k ∧ n' ≤ k
def QZ (w : World) (b : Bool) (A : Option Addr) (n c : Nat) (A' : Option Addr) (n' c' : Nat) (q : Rat) (k : Nat) : Prop := ∃ a, QD w b A n c A' n' c' a k ∧ a.q = q
def QV (w : World) (b : Bool) (A : Option Addr) (n c : Nat) (A' : Option Addr) (n' c' : Nat) (q : Rat) (k : Nat) : Prop := QD w b A n c A' n' c' (rd q) k
section
variable {w w' : World} {b : Bool} {A A' : Option Addr} {n c n' c' k j : Nat} {z : Int} {q : Rat} {a : RD}
theorem IV.iz (h : IV w b A n c z k) : IZ w b A n c z k := by
  obtain ⟨rfl, h1, h2⟩ := h
  exact ⟨_, h1, wh_z z, h2⟩
theorem IZ.belw (h : IZ w b A n c z k) (hb : Below w.heap.size w w') : IZ w' b A n c z k := by
  obtain ⟨l, h1, h2, h3⟩ := h; exact ⟨l, h1.belw hb, h2, h3⟩
theorem IV.belw (h : IV w b A n c z k) (hb : Below w.heap.size w w') : IV w' b A n c z k := ⟨h.1, h.2.1.belw hb, h.2.2⟩
theorem IZ.keep (h : IZ w b A n c z k) (hb : Kp w w') : IZ w' b A n c z k := by
  obtain ⟨l, h1, h2, h3⟩ := h; exact ⟨l, h1.keep hb, h2, h3⟩
theorem IV.keep (h : IV w b A n c z k) (hb : Kp w w') : IV w' b A n c z k := ⟨h.1, h.2.1.keep hb, h.2.2⟩
theorem IZ.mono (h : IZ w b A n c z k) (hk : k ≤ j) : IZ w b A n c z j := by
  obtain ⟨l, h1, h2, h3⟩ := h; exact ⟨l, h1, h2, Nat.le_trans h3 hk⟩
theorem IV.mono (h : IV w b A n c z k) (hk : k ≤ j) : IV w b A n c z j := ⟨h.1, h.2.1, Nat.le_trans h.2.2 hk⟩
theorem QD.belw (h : QD w b A n c A' n' c' a k) (hb : Below w.heap.size w w') : QD w' b A n c A' n' c' a k := ⟨h.1, h.2.1.belw hb, h.2.2.1.belw hb, h.2.2.2⟩
theorem QD.keep (h : QD w b A n c A' n' c' a k) (hb : Kp w w') : QD w' b A n c A' n' c' a k := ⟨h.1, h.2.1.keep hb, h.2.2.1.keep hb, h.2.2.2⟩
theorem QD.mono (h : QD w b A n c A' n' c' a k) (hk : k ≤ j) : QD w b A n c A' n' c' a j := ⟨h.1, h.2.1, h.2.2.1, Nat.le_trans h.2.2.2.1 hk, Nat.le_trans h.2.2.2.2 hk⟩
theorem QD.qz (h : QD w b A n c A' n' c' a k) : QZ w b A n c A' n' c' a.q k := ⟨a, h, rfl⟩
theorem QZ.belw (h : QZ w b A n c A' n' c' q k) (hb : Below w.heap.size w w') : QZ w' b A n c A' n' c' q k := by
  obtain ⟨a, h1, h2⟩ := h; exact ⟨a, h1.belw hb, h2⟩
theorem QZ.keep (h : QZ w b A n c A' n' c' q k) (hb : Kp w w') : QZ w' b A n c A' n' c' q k := by
  obtain ⟨a, h1, h2⟩ := h; exact ⟨a, h1.keep hb, h2⟩
theorem QZ.mono (h : QZ w b A n c A' n' c' q k) (hk : k ≤ j) : QZ w b A n c A' n' c' q j := by
  obtain ⟨a, h1, h2⟩ := h; exact ⟨a, h1.mono hk, h2⟩
theorem QV.qz (h : QV w b A n c A' n' c' q k) : QZ w b A n c A' n' c' q k := ⟨_, h, rd_q q⟩
theorem QV.belw (h : QV w b A n c A' n' c' q k) (hb : Below w.heap.size w w') : QV w' b A n c A' n' c' q k := QD.belw h hb
theorem QV.keep (h : QV w b A n c A' n' c' q k) (hb : Kp w w') : QV w' b A n c A' n' c' q k := QD.keep h hb
theorem QV.mono (h : QV w b A n c A' n' c' q k) (hk : k ≤ j) : QV w b A n c A' n' c' q j := QD.mono h hk
/-- How great the value can be. -/
theorem WD.z_lt {l : List Nat} (h : Wd w A n c l) (hk : n ≤ k) : (WD.z ⟨b, l⟩).natAbs < 4294967296 ^ k := by
  have h1 := h.vlt hk
  have h2 := pow_pos' k
  unfold WD.z
  split
  · simp only; split <;> omega
  · simpa using h2
theorem IZ.lt (h : IZ w b A n c z k) : z.natAbs < 4294967296 ^ k := by
  obtain ⟨l, h1, rfl, h3⟩ := h; exact WD.z_lt h1 h3
theorem QD.sz (h : QD w b A n c A' n' c' a k) (hk : 0 < k) : Sz a.q k := by
  have e1 := RD.q_num h.2.1.1 h.2.2.1.1
  have e2 := RD.q_den h.2.1.1 h.2.2.1.1
  have h1 := h.2.1.vlt h.2.2.2.1
  have h2 := h.2.2.1.vlt h.2.2.2.2
  have h3 : 1 < 4294967296 ^ k := Nat.one_lt_pow (by omega) (by omega)
  unfold Sz
  rw [e1, e2]
  refine ⟨?_, ?_⟩
  · unfold RD.n
    split
    · split <;> omega
    · simp; omega
  · unfold RD.d; split <;> omega
theorem QZ.sz (h : QZ w b A n c A' n' c' q k) (hk : 0 < k) : Sz q k := by
  obtain ⟨a, h1, rfl⟩ := h; exact h1.sz hk
theorem QV.mk_ (h1 : Wd w A n c (rd q).num) (h2 : Wd w A' n' c' (rd q).den) (hb : (rd q).neg = b) (hs : Sz q k) : QV w b A n c A' n' c' q k := by
  refine ⟨hb, h1, h2, ?_, ?_⟩
  · rw [h1.2.1]; exact length_digs_le hs.1
  · rw [h2.2.1]; unfold rd; simp only; split
    · simp
    · exact length_digs_le hs.2
theorem IV.mk_ (h : Wd w A n c (wh z).mag) (hb : b = (wh z).neg) (hs : z.natAbs < 4294967296 ^ k) : IV w b A n c z k :=
  ⟨hb, h, by rw [h.2.1]; exact length_digs_le hs⟩
end
/-- What calls return. -/
def RetI (w : World) (z : Int) (k : Nat) (e : Ending) (w' : World) : Prop := ∃ b A n c, e = .returned (.agg #[.bool b, .slice A n c]) ∧ IV w' b A n c z k ∧ Below w.heap.size w w'
def RetF (w : World) (q : Rat) (k : Nat) (e : Ending) (w' : World) : Prop := ∃ b A n c A' n' c', e = .returned (.agg #[.bool b, .slice A n c, .slice A' n' c']) ∧ QV w' b A n c A' n' c' q k ∧ Below w.heap.size w w'
/-- Two integers, an error beside them or not; a fraction and no error. -/
def RetII (w : World) (z z' : Int) (k : Nat) (e : Ending) (w' : World) : Prop := ∃ b A n c b' A' n' c', e = .returned (.tuple #[.agg #[.bool b, .slice A n c], .agg #[.bool b', .slice A' n' c']]) ∧ IV w' b A n c z k ∧ IV w' b' A' n' c' z' k ∧ Below w.heap.size w w'
def RetDv (w : World) (v : Value) (z z' : Int) (k : Nat) (e : Ending) (w' : World) : Prop := ∃ b A n c b' A' n' c', e = .returned (.tuple #[.agg #[.bool b, .slice A n c], .agg #[.bool b', .slice A' n' c'], v]) ∧ IV w' b A n c z k ∧ IV w' b' A' n' c' z' k ∧ Below w.heap.size w w'
def RetFe (w : World) (v : Value) (q : Rat) (k : Nat) (e : Ending) (w' : World) : Prop := ∃ b A n c A' n' c', e = .returned (.tuple #[.agg #[.bool b, .slice A n c, .slice A' n' c'], v]) ∧ QV w' b A n c A' n' c' q k ∧ Below w.heap.size w w'
theorem gcd_lt {a b K : Nat} (ha : a < K) (hb : b < K) : Nat.gcd a b < K := by
  rcases Nat.eq_zero_or_pos a with rfl | h
  · simpa using hb
  · exact Nat.lt_of_le_of_lt (Nat.gcd_le_left _ h) ha
theorem RetW.i {w w' : World} {z : Int} {k : Nat} {e : Ending} (h : RetW w (wh z) e w') (hs : z.natAbs < 4294967296 ^ k) : RetI w z k e w' := by
  obtain ⟨A, n, c, rfl, h1, h2⟩ := h
  exact ⟨_, A, n, c, rfl, IV.mk_ h1 rfl hs, h2⟩
section
variable (w : World) (b : Bool) (A : Option Addr) (n c : Nat) (z : Int) (k : Nat) (h : IZ w b A n c z k) (b' : Bool) (A' : Option Addr) (n' c' : Nat) (z' : Int) (k' : Nat) (h' : IZ w b' A' n' c' z' k')
include h
theorem i_neg (hk : k ≤ 1000000000) : Calls Tryz.prog 129 #[.agg #[.bool b, .slice A n c]] w (RetI w (-z) k) := by
  have hz := h.lt
  obtain ⟨l, h1, rfl, h3⟩ := h
  exact (neg_C w b A n c l h1 (by omega)).mono fun _ _ r => r.i (by omega)
theorem i_sign (hk : k ≤ 1000000000) : Calls Tryz.prog 76 #[.agg #[.bool b, .slice A n c]] w (RetV w (.int .i64 z.sign)) := by
  obtain ⟨l, h1, rfl, h3⟩ := h
  exact sign_c w b A n c l h1 (by omega)
include h'
theorem i_add (hk : k + k' ≤ 1000000000) : Calls Tryz.prog 127 #[.agg #[.bool b, .slice A n c], .agg #[.bool b', .slice A' n' c']] w (RetI w (z + z') (k + k' + 1)) := by
  have hz := h.mono (Nat.le_add_right k k') |>.lt
  have hz' := h'.mono (Nat.le_add_left k' k) |>.lt
  obtain ⟨l, h1, rfl, h3⟩ := h
  obtain ⟨l', h1', rfl, h3'⟩ := h'
  exact (add_c w b A n c l h1 (by omega) b' A' n' c' l' h1' (by omega)).mono fun _ _ r => r.i (natAbs_add_lt hz hz')
theorem i_mul (hk : k + k' ≤ 1000000000) : Calls Tryz.prog 126 #[.agg #[.bool b, .slice A n c], .agg #[.bool b', .slice A' n' c']] w (RetI w (z * z') (k + k')) := by
  have hz := h.lt
  have hz' := h'.lt
  obtain ⟨l, h1, rfl, h3⟩ := h
  obtain ⟨l', h1', rfl, h3'⟩ := h'
  exact (mul_C w b A n c l h1 (by omega) b' A' n' c' l' h1' (by omega)).mono fun _ _ r => r.i (natAbs_mul_lt hz hz')
theorem i_cmp (hk : k + k' ≤ 1000000000) : Calls Tryz.prog 30 #[.agg #[.bool b, .slice A n c], .agg #[.bool b', .slice A' n' c']] w (RetV w (.int .i64 (cmpI z z'))) := by
  obtain ⟨l, h1, rfl, h3⟩ := h
  obtain ⟨l', h1', rfl, h3'⟩ := h'
  exact cmp_c w b A n c l h1 (by omega) b' A' n' c' l' h1' (by omega)
theorem i_gcd (hk : k + k' ≤ 1000000000) : Calls Tryz.prog 54 #[.agg #[.bool b, .slice A n c], .agg #[.bool b', .slice A' n' c']] w (RetI w (Nat.gcd z.natAbs z'.natAbs : Nat) (k + k')) := by
  have hz := h.mono (Nat.le_add_right k k') |>.lt
  have hz' := h'.mono (Nat.le_add_left k' k) |>.lt
  obtain ⟨l, h1, rfl, h3⟩ := h
  obtain ⟨l', h1', rfl, h3'⟩ := h'
  exact (gcd_c w b A n c l h1 (by omega) b' A' n' c' l' h1' (by omega)).mono fun _ _ r => r.i (by simpa using gcd_lt hz hz')
theorem i_div (hk : k + k' ≤ 1000000000) (h0 : z' ≠ 0) : Calls Tryz.prog 51 #[.agg #[.bool b, .slice A n c], .agg #[.bool b', .slice A' n' c']] w (RetDv w .nilIface (z / z') (z % z') (k + k')) := by
  have hz := h.mono (Nat.le_add_right k k') |>.lt
  have hz' := h'.mono (Nat.le_add_left k' k) |>.lt
  obtain ⟨l, h1, rfl, h3⟩ := h
  obtain ⟨l', h1', rfl, h3'⟩ := h'
  refine (div_C w b A n c l h1 (by omega) b' A' n' c' l' h1' (by omega) h0).mono fun _ _ r => ?_
  obtain ⟨A1, n1, c1, A2, n2, c2, rfl, r1, r2, r3⟩ := r
  refine ⟨_, A1, n1, c1, _, A2, n2, c2, rfl, IV.mk_ r1 rfl ?_, IV.mk_ r2 rfl ?_, r3⟩
  · exact Nat.lt_of_le_of_lt (Int.natAbs_ediv_le_natAbs _ _) hz
  · have e1 := Int.emod_nonneg (WD.z ⟨b, l⟩) h0
    have e2 := Int.emod_lt (WD.z ⟨b, l⟩) h0
    omega
end
theorem i_of (w : World) (i : Int) (k : Nat) (h0 : -9223372036854775808 ≤ i) (h1 : i < 9223372036854775808) (hs : i.natAbs < 4294967296 ^ k) : Calls Tryz.prog 29 #[.int .i64 i] w (RetI w i k) :=
  (of_c w i h0 h1).mono fun _ _ r => r.i hs
theorem i_of1 (w : World) (i : Int) (h0 : -4294967296 < i) (h1 : i < 4294967296) : Calls Tryz.prog 29 #[.int .i64 i] w (RetI w i 1) := i_of w i 1 (by omega) (by omega) (by omega)
theorem IZ.zero (w : World) : IZ w false none 0 0 0 0 := ⟨[], Wd.nil_ w, by simp [WD.z, WD.ok, val], Nat.le_refl _⟩
theorem QZ.zero (w : World) : QZ w false none 0 0 none 0 0 0 1 := ⟨⟨false, [], []⟩, ⟨rfl, Wd.nil_ w, Wd.nil_ w, by omega, by omega⟩, by have := rd_q 0; rw [rd_zero] at this; exact this⟩
theorem QV.zero (w : World) (k : Nat) : QV w false none 0 0 none 0 0 0 k := by
  unfold QV; rw [rd_zero]; exact ⟨rfl, Wd.nil_ w, Wd.nil_ w, by omega, by omega⟩
theorem IV.zero (w : World) (k : Nat) : IV w false none 0 0 0 k := ⟨rfl, by have : (wh 0).mag = [] := digs_zero; rw [this]; exact Wd.nil_ w, by omega⟩
theorem blkAt (w : World) (c : Array Value) (t : TypeId) {g : Nat} (h : g = w.heap.size) : Blk (w.alloc (.cells c t)) g t c := by subst h; exact Blk.new w t c
theorem Blk.set_at {w : World} {g : Nat} {t : TypeId} {cs : Array Value} (h : Blk w g t cs) (i : Nat) (v : Value) (cs' : Array Value) (e : cs.setIfInBounds i v = cs') : Blk (w.setCell ⟨g, i, none⟩ v) g t cs' := by subst e; exact h.set_ i v
theorem Blk.box {w : World} {g : Nat} {t : TypeId} {c : Array Value} (h : Blk w g t c) : Box w g t := ⟨c, _, h⟩
/-- A world of which only some things are said from here on. -/
theorem cut_world {P : Program} {C : Code} {Q : Exit → Act → World → Prop} {a : Act} {w : World} (I : World → Prop) (hw : I w) (h : ∀ W, I W → C.wp P Q a W) : C.wp P Q a w := h w hw
/-- What lies below G reads as it did in W0, but for block g. -/
abbrev SeesX (G g : Nat) (W0 W : World) : Prop := ((∀ b o, b < G → b ≠ g → W.cell? ⟨b, o, none⟩ = W0.cell? ⟨b, o, none⟩) ∧ (∀ b o, b < G → W.frozen? ⟨b, o, none⟩ = W0.frozen? ⟨b, o, none⟩)) ∧ G ≤ W.heap.size
theorem SeesX.of {G g : Nat} {W0 W : World} (h : G ≤ W0.heap.size) (hb : Below W0.heap.size W0 W) : SeesX G g W0 W :=
  ⟨⟨fun b o hlt _ => (bcell hb).1 b o (Nat.lt_of_lt_of_le hlt h), fun b o hlt => (bcell hb).2 b o (Nat.lt_of_lt_of_le hlt h)⟩, Nat.le_trans h hb.size⟩
theorem SeesX.set {G g : Nat} {W0 W : World} (h : SeesX G g W0 W) {i : Nat} {u : Value} : SeesX G g W0 (W.setCell ⟨g, i, none⟩ u) := by
  refine ⟨⟨fun b o hlt hne => ?_, fun b o hlt => ?_⟩, ?_⟩
  · rw [← h.1.1 b o hlt hne]; unfold World.cell?; rw [Below.heap_setCell _ _ _ b hne]
  · rw [← h.1.2 b o hlt]; exact World.frozen?_setCell ..
  · have := h.2; simp [World.setCell]; exact this
end Go.Proofs.YtpnnfbodphflpaaGreatDoor

/- Walks: words of a list, validity, sign, copies without zeros at the end. -/
namespace Go.Proofs.YtpnnfbodphflpaaGreatDoor
open Go Go.RowKit Bn

/-- ref01.word -/
theorem r_word_c (w : World) (A : Option Addr) (n c : Nat) (l : List Nat) (h : Wd w A n c l) (i : Int) (hi : 0 ≤ i) (hn : n ≤ 4398046511104) :
    Calls Tryz.prog 115 #[.slice A n c, .int .i64 i] w fun e w' => e = .returned (.int .u64 (wd l i.toNat : Nat)) ∧ w = w' := by
  obtain ⟨k, rfl⟩ := Int.eq_ofNat_of_zero_le hi
  have hl := h.lt k
  have hlen : n = l.length := h.2.1
  by_cases hk : k < n
  · obtain ⟨g, o, rfl, hc⟩ := h.at_ (by omega)
    have hck := hc k hk
    clear hc hi
    have H := Lib.hid hlen
    clear hlen
    go_enter Tryz.func115, Tryz.ntmps115
    go_wp2
    go_ret
    exact ⟨by simp, rfl⟩
  · have hz : wd l k = 0 := wd_ge (by omega)
    have H := Lib.hid hz
    have H2 := Lib.hid hlen
    clear hz hi hlen
    go_enter Tryz.func115, Tryz.ntmps115
    go_wp2
    go_ret
    exact ⟨by simp [H.out], rfl⟩

/-- ref01.word at place k, where the word is x. -/
theorem r_word_x (w : World) (A : Option Addr) (n c : Nat) (l : List Nat) (h : Wd w A n c l) (k x : Nat) (hx : wd l k = x) (hn : n ≤ 4398046511104) :
    Calls Tryz.prog 115 #[.slice A n c, .int .i64 (k : Nat)] w fun e w' => e = .returned (.int .u64 (x : Nat)) ∧ w = w' := by
  subst hx
  have := r_word_c w A n c l h (k : Nat) (by omega) hn
  simpa using this

theorem r_word_q (w : World) (A : Option Addr) (n c : Nat) (l : List Nat) (h : Wd w A n c l) (k x : Nat) (hx : wd l k = x) (hn : n ≤ 4398046511104) :
    Calls Tryz.prog 115 #[.slice A n c, .int .i64 (k : Nat)] w fun e w' => e = .returned (.int .u64 (x : Nat)) ∧ w' = w :=
  (r_word_x w A n c l h k x hx hn).mono fun _ _ ⟨a, b⟩ => ⟨a, b.symm⟩

/-- ref01.Valid -/
theorem r_valid_c (w : World) (b : Bool) (A : Option Addr) (n c : Nat) (l : List Nat) (h : Wd w A n c l) (hn : n ≤ 1099511627776) :
    Calls Tryz.prog 122 #[.agg #[.bool b, .slice A n c]] w (RetV w (.bool (WD.ok ⟨b, l⟩))) := by
  have HL := Lib.hid h.2.1
  by_cases h0 : n = 0
  · subst h0
    have hl : l = [] := List.eq_nil_of_length_eq_zero HL.out.symm
    have HE := Lib.hid (show WD.ok ⟨b, l⟩ = !b by unfold WD.ok; simp [hl])
    clear hl
    go_enter Tryz.func122, Tryz.ntmps122
    go_wp2
    go_ret
    exact retB HE.out.symm ((Below.refl _ _).alloc (Nat.le_refl _) _)
  · obtain ⟨g, o, rfl, hgl, hc⟩ := h.at2 (by omega)
    have hck := hc (n - 1) (by omega)
    have hlt := h.lt (n - 1)
    have he : WD.ok ⟨b, l⟩ = !decide (wd l (n - 1) = 0) := by
      have hne : l ≠ [] := by rintro rfl; have := HL.out; simp at this; omega
      unfold WD.ok
      simp only [if_neg hne, ← HL.out]
      by_cases hz : wd l (n - 1) = 0 <;> simp [hz]
    have HE := Lib.hid he
    clear he
    have hn0 : ((n : Int) == 0) = false := by simp; omega
    have hp : 0 < n := by omega
    clear hc h0
    generalize hgx : wd l (n - 1) = x at *
    clear hgx
    go_enter Tryz.func122, Tryz.ntmps122
    go_wp2
    go_ret
    refine retB ?_ ((Below.refl _ _).alloc (Nat.le_refl _) _)
    rw [HE.out]
    by_cases hz : x = 0 <;> simp [hz]

/-- ref01.mag -/
theorem r_mag_c (w : World) (b : Bool) (A : Option Addr) (n c : Nat) (l : List Nat) (h : Wd w A n c l) (hn : n ≤ 1099511627776) :
    Calls Tryz.prog 72 #[.agg #[.bool b, .slice A n c]] w (RetL w (WD.m ⟨b, l⟩)) := by
  cases hk : WD.ok ⟨b, l⟩
  · have HK := Lib.hid hk
    go_enter Tryz.func72, Tryz.ntmps72
    go_wp2_with (go_at_call 122; refine (r_valid_c _ b A n c l (h.keep ((Kp.refl _).alloc _)) hn).mono ?_; rintro e w1 ⟨rfl, hb⟩)
    go_ret
    refine ⟨none, 0, 0, rfl, ?_, ((Below.refl _ _).alloc (Nat.le_refl _) _).trans (hb.mono (by simp))⟩
    unfold WD.m; rw [HK.out]; exact Wd.nil_ _
  · have HK := Lib.hid hk
    go_enter Tryz.func72, Tryz.ntmps72
    go_wp2_with (go_at_call 122; refine (r_valid_c _ b A n c l (h.keep ((Kp.refl _).alloc _)) hn).mono ?_; rintro e w1 ⟨rfl, hb⟩; obtain ⟨hc, hf⟩ := bcell hb)
    go_ret
    refine ⟨A, n, c, rfl, ?_, ((Below.refl _ _).alloc (Nat.le_refl _) _).trans (hb.mono (by simp))⟩
    unfold WD.m; rw [HK.out]; exact h.keep (((Kp.refl _).alloc _).below hb)

/-- ref01.neg -/
theorem r_neg_c (w : World) (b : Bool) (A : Option Addr) (n c : Nat) (l : List Nat) (h : Wd w A n c l) (hn : n ≤ 1099511627776) :
    Calls Tryz.prog 74 #[.agg #[.bool b, .slice A n c]] w (RetV w (.bool (WD.s ⟨b, l⟩))) := by
  cases hk : WD.ok ⟨b, l⟩
  · have HK := Lib.hid hk
    go_enter Tryz.func74, Tryz.ntmps74
    go_wp2_with (go_at_call 122; refine (r_valid_c _ b A n c l (h.keep ((Kp.refl _).alloc _)) hn).mono ?_; rintro e w1 ⟨rfl, hb⟩)
    go_ret
    refine retB ?_ (((Below.refl _ _).alloc (Nat.le_refl _) _).trans (hb.mono (by simp)))
    unfold WD.s; rw [HK.out]; rfl
  · have HK := Lib.hid hk
    go_enter Tryz.func74, Tryz.ntmps74
    go_wp2_with (go_at_call 122; refine (r_valid_c _ b A n c l (h.keep ((Kp.refl _).alloc _)) hn).mono ?_; rintro e w1 ⟨rfl, hb⟩; obtain ⟨hc, hf⟩ := bcell hb)
    go_ret
    refine retB ?_ (((Below.refl _ _).alloc (Nat.le_refl _) _).trans (hb.mono (by simp)))
    unfold WD.s; rw [HK.out]; simp

end Go.Proofs.YtpnnfbodphflpaaGreatDoor

/- Walks: the reference's copies without zeros at the end, and the integer of words. -/
namespace Go.Proofs.YtpnnfbodphflpaaGreatDoor
open Go Go.RowKit Bn

theorem Wd.cut_ {w : World} {g o n c : Nat} {l : List Nat} (h : Wd w (some ⟨g, o, none⟩) n c l) {j : Nat} (hj : j ≤ n) : Wd w (some ⟨g, o, none⟩) j c (l.take j) := by
  have hl := h.2.1
  refine ⟨Wds.take h.1 j, by rw [List.length_take]; omega, Nat.le_trans hj h.2.2.1, fun h0 => ?_⟩
  obtain ⟨g', o', cur, fr, e, hb, hc⟩ := h.2.2.2 (by omega)
  refine ⟨g', o', cur, fr, e, hb, fun i hi => ?_⟩
  rw [hc i (by omega)]
  have : wd (l.take j) i = wd l i := by simp [wd, List.getD, hi]
  rw [this]
theorem run_append_empty {P : Program} (w : World) (t ty e : TypeId) (i : TypeInfo) (ht : P.underlying t = some (.slice e)) (hi : P.info? e = some i) (g : Nat) (A : Option Addr) (c : Nat) :
    (Builtin.append_ #[t, t] ty #[.slice (some ⟨g, 0, none⟩) 0 0, .slice A 0 c]).run P w = .ok (.slice (some ⟨g, 0, none⟩) 0 0) w := by
  cases A <;> simp [Builtin.append_, run_underlying ht, sizeOf, typeInfo, hi, Builtin.lenOf, Builtin.firstCells, loadCells, loadCellsFrom, storeCells]
theorem wpList_append_empty {P : Program} {w : World} {ops : Array Oper} {rest : List Oper} {o : Oper} {a : Act} {Q : Exit → Act → World → Prop} (hgd : o.guard = none) (s x : Operand) (t : TypeId)
    (ho : o.op = .call { callee := .builtin .append, args := #[s, x], argTypes := #[t, t] })
    (e : TypeId) (i : TypeInfo) (ht : P.underlying t = some (.slice e)) (hi : P.info? e = some i)
    (g : Nat) (A : Option Addr) (c : Nat) (hs : a.eval s = .slice (some ⟨g, 0, none⟩) 0 0) (hx : a.eval x = .slice A 0 c)
    (h : wpList P ops Q rest (a.put o.dst (.slice (some ⟨g, 0, none⟩) 0 0)) w) : wpList P ops Q (o :: rest) a w := by
  refine wpList_plain hgd fun K hK => ?_
  have hrun := run_append_empty (P := P) w t o.type e i ht hi g A c
  unfold Oper.wp
  simp [execOp, ho, resolve, invoke, builtin, hs, hx, hrun, Result.andThen]
  exact hK _ _ h
/-- linkworkref01.trim -/
theorem r_trim_c (w : World) (A : Option Addr) (n c : Nat) (l : List Nat) (h : Wd w A n c l) (hn : n ≤ 4398046511104) :
    Calls Tryz.prog 73 #[.slice A n c] w (RetL w (digs (val l))) := by
  have HL := Lib.hid h.2.1
  have hcap : n ≤ c := h.2.2.1
  obtain ⟨i0, hi0, hz0, hz1, hz2⟩ := info_parts info_u32
  by_cases h0 : n = 0
  · subst h0
    have HE := Lib.hid (show digs (val l) = [] by rw [List.eq_nil_of_length_eq_zero HL.out.symm]; exact digs_zero)
    clear h hn
    go_enter Tryz.func73, Tryz.ntmps73
    go_wp2_with (at_builtin; refine wpList_append_empty rfl _ _ _ rfl 84 i0 Tryz.underlying22 hi0 _ _ _ rfl rfl ?_)
    go_loop [3] (fun v => v = .slice (some ⟨w.heap.size, 0, none⟩) 0 0) (fun _ => 0)
    case atStart => rfl
    case round =>
      subst hrel
      go_wp2
      go_ret
      refine ⟨_, _, _, rfl, ?_, (Below.refl _ _).alloc (Nat.le_refl _) _⟩
      rw [HE.out]
      exact ⟨by simp [Wds], rfl, Nat.le_refl _, fun h => absurd h (by omega)⟩
  · obtain ⟨g, o, rfl, hc⟩ := h.at_ (by omega)
    clear hc
    have hp : 0 < n := by omega
    have hown := World.ownsRow_lit (e := 84) (size := 1) w #[] 0 (Nat.le_refl _) (by simp [maxLen]) rfl
    have hnews := (h.keep ((Kp.refl w).alloc (.cells #[] 84))).news (by omega) (Nat.le_refl _)
    have hnl : (words (l.take n)).length = n * 1 := by rw [words_len, List.length_take, ← HL.out]; omega
    have HO := Lib.hid hown
    have HN := Lib.hid hnews
    have HNL := Lib.hid hnl
    have HW := Lib.hid h.1
    clear hown hnews hnl h h0
    go_enter Tryz.func73, Tryz.ntmps73
    go_wp2_with (at_builtin; refine wpList_append_lies _ rfl _ _ _ rfl w.heap.size 84 i0 (.int .u32 0) 1 4 Tryz.underlying22 hi0 hz0 hz1 hz2 rfl (by omega) _ 0 [] rfl HO.out ⟨g, o, none⟩ n c (words (l.take n)) rfl HNL.out HN.out (words_one _) (by omega) (by unfold maxLen; omega) (by omega) (by simp) (w.heap.size + 1) (by simp) ?_; intro gx cap w1 hown1 hgrow hat hlt1)
    simp only [Nat.zero_add, List.nil_append] at hown1
    have hw1 := Wd.of_own hown1 (Wds.take HW.out n)
    rw [List.take_of_length_le (Nat.le_of_eq HL.out.symm)] at hw1
    have hbel := ((Below.refl w.heap.size w).alloc (Nat.le_refl _) (.cells #[] 84)).grown hgrow (by simp) (fun b hb => Nat.le_of_eq (Option.some.inj hb))
    have HW1 := Lib.hid hw1
    have HB := Lib.hid hbel
    have hcap1 : n ≤ cap := hw1.2.2.1
    clear hown1 hgrow hat hw1 hbel HO HN HNL
    go_loop [3] (fun v => ∃ k : Nat, k ≤ n ∧ v = .slice (some ⟨gx, 0, none⟩) k cap ∧ TrimI l k) (fun v => match v with | .slice _ k _ => k | _ => 0)
    case atStart => exact ⟨n, Nat.le_refl _, by simp, fun i hi => wd_ge (by rw [← HL.out]; exact hi)⟩
    case round =>
      obtain ⟨k, hk, rfl, ht⟩ := hrel
      by_cases h0 : k = 0
      · subst h0
        have HT := Lib.hid ht
        clear ht
        go_wp2
        go_ret
        refine ⟨_, _, _, rfl, ?_, HB.out⟩
        have := digs_of_take HW.out (Nat.zero_le _) HT.out (.inl rfl)
        rw [this]; exact HW1.out.cut_ (Nat.zero_le _)
      · have hkp : 0 < k := by omega
        obtain ⟨g', o', e, hc⟩ := HW1.out.at_ (by omega)
        injection e with e; injection e with e1 e2
        subst e1 e2
        have hck := hc (k - 1) (by omega)
        rw [Nat.zero_add] at hck
        have hlt := HW1.out.lt (k - 1)
        have HT := Lib.hid ht
        generalize hx : wd l (k - 1) = x at *
        have HX := Lib.hid hx
        clear hc h0 ht hx
        by_cases hz : x = 0
        · subst hz
          go_wp2
          go_round
          case rel => exact ⟨k - 1, by omega, rfl, fun i hi => by
            by_cases he : i = k - 1
            · subst he; exact HX.out
            · exact HT.out i (by omega)⟩
          case measure => dsimp only; omega
        · have hz' : ((x : Int) == 0) = false := by simp; omega
          have HZ := Lib.hid hz
          clear hz
          go_wp2
          go_ret
          have hd := digs_of_take HW.out (by rw [← HL.out]; exact hk) HT.out (.inr (by rw [HX.out]; exact HZ.out))
          refine ⟨_, _, _, rfl, ?_, HB.out⟩
          rw [hd]; exact HW1.out.cut_ hk
end Go.Proofs.YtpnnfbodphflpaaGreatDoor

/- Walks: the reference's integer of words, comparison of lists. -/
namespace Go.Proofs.YtpnnfbodphflpaaGreatDoor
open Go Go.RowKit Bn

/-- linkworkref01.form -/
theorem r_form_c (w : World) (b : Bool) (A : Option Addr) (n c : Nat) (l : List Nat) (h : Wd w A n c l) (hn : n ≤ 1099511627776) :
    Calls Tryz.prog 65 #[.bool b, .slice A n c] w (RetW w (wh (sgn b (val l)))) := by
  rw [wh_sgn]
  go_enter Tryz.func65, Tryz.ntmps65
  go_wp2_with fail
  (with_reducible refine (r_trim_c _ A n c l ?_ ?_).mono ?_); (exact h.keep ((Kp.refl _).alloc _)); (omega); rintro e w1 ⟨A1, n1, c1, rfl, h1, hb⟩
  have q : Below w.heap.size w w1 := ((Below.refl _ _).alloc (Nat.le_refl _) _).trans (hb.mono (by simp))
  have x : Blk w1 w.heap.size 48 #[.bool false, .slice none 0 0] := (blkAt w _ _ rfl).below hb (by simp)
  have c0 : w1.cell? ⟨w.heap.size, 0, none⟩ = some (.bool false) := x.cell 0
  have c1' : w1.cell? ⟨w.heap.size, 1, none⟩ = some (.slice none 0 0) := x.cell 1
  obtain ⟨f0, f1⟩ := x.f2
  have HL := Lib.hid h1.2.1
  clear hb h
  by_cases h0 : n1 = 0
  · subst h0
    have HE := Lib.hid (List.eq_nil_of_length_eq_zero HL.out.symm)
    have H1 := Lib.hid h1
    clear h1
    go_wp2
    refine bodyPost_ret (v := .agg #[.bool false, .slice none 0 0]) (by simp [results, Tryz.results65, go_sem, *] <;> first | rfl | exact ⟨rfl, rfl⟩) rfl ?_
    rw [HE.out]
    exact ⟨none, 0, 0, by simp, Wd.nil_ _, (q.setCell (p := ⟨w.heap.size, 0, none⟩) (Nat.le_refl _) _).setCell (p := ⟨w.heap.size, 1, none⟩) (Nat.le_refl _) _⟩
  · have e0 : ((n1 : Int) == 0) = false := by simp; omega
    have hp : 0 < n1 := by omega
    have H1 := Lib.hid h1
    clear h1 h0
    go_wp2
    refine bodyPost_ret (v := .agg #[.bool b, .slice A1 n1 c1]) (by simp [results, Tryz.results65, go_sem, *] <;> first | rfl | exact ⟨rfl, rfl⟩) rfl ?_
    refine ⟨A1, n1, c1, ?_, H1.out.keep (kp2 x.box (by decide) _ _ _ _), (q.setCell (p := ⟨w.heap.size, 0, none⟩) (Nat.le_refl _) _).setCell (p := ⟨w.heap.size, 1, none⟩) (Nat.le_refl _) _⟩
    have : decide (0 < (digs (val l)).length) = true := by rw [← HL.out]; simp [hp]
    rw [this]; simp
set_option maxHeartbeats 1000000 in
/-- linkworkref01.compare -/
theorem r_compare_c (w : World) (A : Option Addr) (n c : Nat) (l : List Nat) (wa : Wd w A n c l) (hn : n ≤ 1099511627776) (A' : Option Addr) (n' c' : Nat) (l' : List Nat) (wb : Wd w A' n' c' l') (hn' : n' ≤ 1099511627776) :
    Calls Tryz.prog 133 #[.slice A n c, .slice A' n' c'] w (RetV w (.int .i64 (cmpN (val l) (val l')))) := by
  have HL := Lib.hid wa.2.1
  have HL' := Lib.hid wb.2.1
  obtain ⟨M, hM⟩ : ∃ M, M = max n n' := ⟨_, rfl⟩
  have HM := Lib.hid hM
  have hM3 : M ≤ 1099511627776 := by omega
  clear hM
  go_enter Tryz.func133, Tryz.ntmps133
  go_wp2
  all_goals
    go_loop [5] (fun v => ∃ k : Nat, k ≤ M ∧ v = .int .i64 ((k : Int) - 1) ∧ CmpI l l' k) (fun v => (intOf v + 1).toNat)
    case atStart => exact ⟨M, Nat.le_refl _, by have := HM.out; rw [show (M : Int) - 1 = _ from rfl]; congr 1; omega, fun j hj => by rw [wd_ge (by rw [← HL.out]; have := HM.out; omega), wd_ge (by rw [← HL'.out]; have := HM.out; omega)]⟩
    case round =>
      obtain ⟨k, hk, rfl, hI⟩ := hrel
      by_cases h0 : k = 0
      · subst h0
        have HE := Lib.hid (show cmpN (val l) (val l') = 0 by unfold cmpN; rw [val_eq_of (fun j => hI j (Nat.zero_le _))]; simp)
        clear hI
        go_wp2
        go_ret
        exact retI HE.out.symm (Below.refl _ _)
      · obtain ⟨j, rfl⟩ : ∃ j, k = j + 1 := ⟨k - 1, by omega⟩
        obtain ⟨x, y, hx, hy⟩ : ∃ x y, wd l j = x ∧ wd l' j = y := ⟨_, _, rfl, rfl⟩
        have HX := Lib.hid hx
        have HY := Lib.hid hy
        have HI := Lib.hid hI
        have ej : (((j + 1 : Nat) : Int) - 1) = (j : Int) := by omega
        rw [ej]
        clear hx hy hI h0 ej
        rcases Nat.lt_trichotomy x y with hxy | rfl | hxy
        · have hne : ((x : Int) != (y : Int)) = true := by rw [bne_iff_ne]; omega
          have HE := Lib.hid (show cmpN (val l) (val l') = -1 by unfold cmpN; rw [if_pos (val_lt_of wa.1 (i := j) (by rw [HX.out, HY.out]; exact hxy) (fun i hi => HI.out i (by omega)))])
          go_wp2_with (first
            | (go_at_call 115; (with_reducible refine (r_word_x _ A n c l ?_ j x HX.out (by omega)).mono ?_); exact wa; rintro e w' ⟨rfl, rfl⟩)
            | (go_at_call 115; (with_reducible refine (r_word_x _ A' n' c' l' ?_ j y HY.out (by omega)).mono ?_); exact wb; rintro e w' ⟨rfl, rfl⟩))
          go_ret
          exact retI HE.out.symm (Below.refl _ _)
        · go_wp2_with (first
            | (go_at_call 115; (with_reducible refine (r_word_x _ A n c l ?_ j x HX.out (by omega)).mono ?_); exact wa; rintro e w' ⟨rfl, rfl⟩)
            | (go_at_call 115; (with_reducible refine (r_word_x _ A' n' c' l' ?_ j x HY.out (by omega)).mono ?_); exact wb; rintro e w' ⟨rfl, rfl⟩))
          go_round
          case rel => exact ⟨j, by omega, by go_num, fun i hi => by
            by_cases hij : i = j
            · subst hij; rw [HX.out, HY.out]
            · exact HI.out i (by omega)⟩
          case measure => simp [intOf]
        · have hne : ((x : Int) != (y : Int)) = true := by rw [bne_iff_ne]; omega
          have HE := Lib.hid (show cmpN (val l) (val l') = 1 by
            have := val_lt_of wb.1 (i := j) (by rw [HX.out, HY.out]; exact hxy) (fun i hi => (HI.out i (by omega)).symm)
            unfold cmpN; rw [if_neg (by omega), if_neg (by omega)])
          go_wp2_with (first
            | (go_at_call 115; (with_reducible refine (r_word_x _ A n c l ?_ j x HX.out (by omega)).mono ?_); exact wa; rintro e w' ⟨rfl, rfl⟩)
            | (go_at_call 115; (with_reducible refine (r_word_x _ A' n' c' l' ?_ j y HY.out (by omega)).mono ?_); exact wb; rintro e w' ⟨rfl, rfl⟩))
          go_ret
          exact retI HE.out.symm (Below.refl _ _)
end Go.Proofs.YtpnnfbodphflpaaGreatDoor

/- Walks: the reference's sums and differences of lists. -/
namespace Go.Proofs.YtpnnfbodphflpaaGreatDoor
open Go Go.RowKit Bn

theorem wd_snoc_lt {L : List Nat} {d i : Nat} (h : i < L.length) : wd (L ++ [d]) i = wd L i := by
  simp [wd, List.getD, List.getElem?_append_left h]
theorem wd_snoc {L : List Nat} {d : Nat} : wd (L ++ [d]) L.length = d := by simp [wd, List.getD]
theorem Sm_snoc {L : List Nat} {d k : Nat} (h : L.length = k) : Sm (wd (L ++ [d])) (k + 1) = Sm (wd L) k + d * 4294967296 ^ k := by
  subst h
  rw [Sm, wd_snoc, Sm_congr (fun i hi => wd_snoc_lt hi)]
theorem wds_snoc {L : List Nat} {d : Nat} (h : Wds L) (hd : d < 4294967296) : Wds (L ++ [d]) := by
  intro x hx
  rcases List.mem_append.1 hx with h1 | h1
  · exact h x h1
  · simp at h1; omega
theorem words_snoc (L : List Nat) (d : Nat) : words (L ++ [d]) = words L ++ [.int .u32 (d : Nat)] := by simp [words]
theorem own_base {w : World} {base : Nat} {e : TypeId} {size : Nat} {v : Value} {n : Nat} {xs : List Value} (h : w.ownsRow base e size v n xs) : ∀ b, v.ownBlock = some b → base ≤ b := by
  intro b hb
  rcases h.2 with ⟨rfl, _⟩ | ⟨g, c, cur, rfl, h1, _⟩
  · simp [Value.ownBlock] at hb
  · simp [Value.ownBlock] at hb; omega
set_option maxRecDepth 100000 in
set_option maxHeartbeats 1000000 in
theorem r_plus_1 (w : World) (A : Option Addr) (n c : Nat) (l : List Nat) (wa : Wd w A n c l) (hn : n ≤ 1099511627776) (A' : Option Addr) (n' c' : Nat) (l' : List Nat) (wb : Wd w A' n' c' l') (hn' : n' ≤ 1099511627776) (hle : n ≤ n') :
    Calls Tryz.prog 63 #[.slice A n c, .slice A' n' c'] w (RetL w (digs (val l + val l'))) := by
  have HL := Lib.hid wa.2.1
  have HL' := Lib.hid wb.2.1
  obtain ⟨i0, hi0, hz0, hz1, hz2⟩ := info_parts info_u32
  go_enter Tryz.func63, Tryz.ntmps63
  go_wp2_with fail
  go_loopw [5, 6, 15] (fun ov cv iv wr => ∃ (k cr : Nat) (L : List Nat), k ≤ n' + 1 ∧ iv = .int .i64 (k : Nat) ∧ cv = .int .u64 (cr : Nat) ∧ cr ≤ 1 ∧ L.length = k ∧ PlusI l l' L k cr ∧ wr.ownsRow w.heap.size 84 1 ov k (words L) ∧ Below w.heap.size w wr) (fun _ _ iv _ => n' + 1 - (intOf iv).toNat)
  case atStart => exact ⟨0, 0, [], Nat.zero_le _, rfl, rfl, by omega, rfl, ⟨by simp [Wds], by simp [Sm]⟩, ⟨rfl, .inl ⟨rfl, rfl⟩⟩, brefl _⟩
  case round =>
    obtain ⟨k, cr, L, hk, rfl, rfl, hcr, hLk, hI, hown, hbel⟩ := hrel
    have hKp := Lib.hid ((Kp.refl w).below hbel)
    have HI := Lib.hid hI
    have HLk := Lib.hid hLk
    have HO := Lib.hid hown
    clear hI hLk hown
    by_cases hkM : k < n' + 1
    · obtain ⟨x, y, hx, hy⟩ : ∃ x y, wd l k = x ∧ wd l' k = y := ⟨_, _, rfl, rfl⟩
      have hx1 : x < 4294967296 := by rw [← hx]; exact wa.lt k
      have hy1 : y < 4294967296 := by rw [← hy]; exact wb.lt k
      have HX := Lib.hid hx
      have HY := Lib.hid hy
      have hsz := hbel.size
      have HD := Lib.hid (plus_step (x := x) (y := y) HI.out.2)
      clear hx hy
      go_wp2_with (first
        | (go_at_call 115; (with_reducible refine (r_word_x _ A n c l ?_ k x HX.out (by omega)).mono ?_); exact wa.keep hKp.out; rintro e w' ⟨rfl, rfl⟩)
        | (go_at_call 115; (with_reducible refine (r_word_x _ A' n' c' l' ?_ k y HY.out (by omega)).mono ?_); exact wb.keep hKp.out; rintro e w' ⟨rfl, rfl⟩)
        | (at_builtin; refine wpList_append_lies _ rfl _ _ _ rfl w.heap.size 84 i0 (.int .u32 0) 1 4 Tryz.underlying22 hi0 hz0 hz1 hz2 rfl (by omega) _ k (words L) rfl (HO.out.alloc _) ⟨wr.heap.size, 0, none⟩ 1 1 [_] rfl rfl (World.news_of_block (heap_alloc_new wr _)) (by simp [Value.oneCell']) (by omega) (by unfold maxLen; omega) (by omega) (by simp; omega) (wr.heap.size + 1) (by simp) ?_; intro gx cap w1 hown1 hgrow hat hlt1))
      go_roundw
      case rel =>
        refine ⟨k + 1, (cr + x + y) / 4294967296, L ++ [(cr + x + y) % 4294967296], by omega, by go_num, by congr 1; omega, by omega, by simp [HLk.out], ⟨wds_snoc HI.out.1 (Nat.mod_lt _ (by omega)), ?_⟩, ?_, (hbel.alloc hbel.size _).grown hgrow (by simp; omega) (own_base HO.out)⟩
        · rw [Sm_snoc HLk.out, Sm, Sm, HX.out, HY.out, Nat.pow_succ]
          exact HD.out
        · have e : (Value.int .u32 (((x : Int) + y + cr) % 4294967296)) = .int .u32 (((cr + x + y) % 4294967296 : Nat) : Int) := by congr 1; omega
          rw [words_snoc, ← e]; exact hown1
      case measure => simp [intOf]; omega
    · have hkk : k = n' + 1 := by omega
      have hv : val L = val l + val l' := by
        have h1 := HI.out.2
        have h2 := val_lt wa.1
        have h3 := val_lt wb.1
        rw [Sm_ge L (by rw [HLk.out]; exact Nat.le_refl _), Sm_ge l (by rw [← HL.out]; omega), Sm_ge l' (by rw [← HL'.out]; omega)] at h1
        have h4 : 4294967296 ^ l.length ≤ 4294967296 ^ (k - 1) := Nat.pow_le_pow_right (by omega) (by rw [← HL.out]; omega)
        have h5 : 4294967296 ^ l'.length ≤ 4294967296 ^ (k - 1) := Nat.pow_le_pow_right (by omega) (by rw [← HL'.out]; omega)
        have h6 : 4294967296 ^ k = 4294967296 ^ (k - 1) * 4294967296 := by rw [← Nat.pow_succ]; congr 1; omega
        rcases (show cr = 0 ∨ cr = 1 by omega) with rfl | rfl
        · omega
        · omega
      have HV := Lib.hid hv
      obtain ⟨gx, cap, rfl, _, _⟩ := HO.out.form (by omega)
      clear hv hkk
      go_wp2_with fail
      (with_reducible refine (r_trim_c _ _ k cap L ?_ ?_).mono ?_); (exact Wd.of_own HO.out HI.out.1); (omega); rintro e w1 ⟨A1, n1, c1, rfl, h1, hb1⟩
      go_wp2
      go_ret
      rw [HV.out] at h1
      exact ⟨_, _, _, rfl, h1, hbel.trans (hb1.mono hbel.size)⟩
set_option maxRecDepth 100000 in
set_option maxHeartbeats 1000000 in
theorem r_plus_2 (w : World) (A : Option Addr) (n c : Nat) (l : List Nat) (wa : Wd w A n c l) (hn : n ≤ 1099511627776) (A' : Option Addr) (n' c' : Nat) (l' : List Nat) (wb : Wd w A' n' c' l') (hn' : n' ≤ 1099511627776) (hle : n' < n) :
    Calls Tryz.prog 63 #[.slice A n c, .slice A' n' c'] w (RetL w (digs (val l + val l'))) := by
  have HL := Lib.hid wa.2.1
  have HL' := Lib.hid wb.2.1
  obtain ⟨i0, hi0, hz0, hz1, hz2⟩ := info_parts info_u32
  go_enter Tryz.func63, Tryz.ntmps63
  go_wp2_with fail
  go_loopw [5, 6, 15] (fun ov cv iv wr => ∃ (k cr : Nat) (L : List Nat), k ≤ n + 1 ∧ iv = .int .i64 (k : Nat) ∧ cv = .int .u64 (cr : Nat) ∧ cr ≤ 1 ∧ L.length = k ∧ PlusI l l' L k cr ∧ wr.ownsRow w.heap.size 84 1 ov k (words L) ∧ Below w.heap.size w wr) (fun _ _ iv _ => n + 1 - (intOf iv).toNat)
  case atStart => exact ⟨0, 0, [], Nat.zero_le _, rfl, rfl, by omega, rfl, ⟨by simp [Wds], by simp [Sm]⟩, ⟨rfl, .inl ⟨rfl, rfl⟩⟩, brefl _⟩
  case round =>
    obtain ⟨k, cr, L, hk, rfl, rfl, hcr, hLk, hI, hown, hbel⟩ := hrel
    have hKp := Lib.hid ((Kp.refl w).below hbel)
    have HI := Lib.hid hI
    have HLk := Lib.hid hLk
    have HO := Lib.hid hown
    clear hI hLk hown
    by_cases hkM : k < n + 1
    · obtain ⟨x, y, hx, hy⟩ : ∃ x y, wd l k = x ∧ wd l' k = y := ⟨_, _, rfl, rfl⟩
      have hx1 : x < 4294967296 := by rw [← hx]; exact wa.lt k
      have hy1 : y < 4294967296 := by rw [← hy]; exact wb.lt k
      have HX := Lib.hid hx
      have HY := Lib.hid hy
      have hsz := hbel.size
      have HD := Lib.hid (plus_step (x := x) (y := y) HI.out.2)
      clear hx hy
      go_wp2_with (first
        | (go_at_call 115; (with_reducible refine (r_word_x _ A n c l ?_ k x HX.out (by omega)).mono ?_); exact wa.keep hKp.out; rintro e w' ⟨rfl, rfl⟩)
        | (go_at_call 115; (with_reducible refine (r_word_x _ A' n' c' l' ?_ k y HY.out (by omega)).mono ?_); exact wb.keep hKp.out; rintro e w' ⟨rfl, rfl⟩)
        | (at_builtin; refine wpList_append_lies _ rfl _ _ _ rfl w.heap.size 84 i0 (.int .u32 0) 1 4 Tryz.underlying22 hi0 hz0 hz1 hz2 rfl (by omega) _ k (words L) rfl (HO.out.alloc _) ⟨wr.heap.size, 0, none⟩ 1 1 [_] rfl rfl (World.news_of_block (heap_alloc_new wr _)) (by simp [Value.oneCell']) (by omega) (by unfold maxLen; omega) (by omega) (by simp; omega) (wr.heap.size + 1) (by simp) ?_; intro gx cap w1 hown1 hgrow hat hlt1))
      go_roundw
      case rel =>
        refine ⟨k + 1, (cr + x + y) / 4294967296, L ++ [(cr + x + y) % 4294967296], by omega, by go_num, by congr 1; omega, by omega, by simp [HLk.out], ⟨wds_snoc HI.out.1 (Nat.mod_lt _ (by omega)), ?_⟩, ?_, (hbel.alloc hbel.size _).grown hgrow (by simp; omega) (own_base HO.out)⟩
        · rw [Sm_snoc HLk.out, Sm, Sm, HX.out, HY.out, Nat.pow_succ]
          exact HD.out
        · have e : (Value.int .u32 (((x : Int) + y + cr) % 4294967296)) = .int .u32 (((cr + x + y) % 4294967296 : Nat) : Int) := by congr 1; omega
          rw [words_snoc, ← e]; exact hown1
      case measure => simp [intOf]; omega
    · have hkk : k = n + 1 := by omega
      have hv : val L = val l + val l' := by
        have h1 := HI.out.2
        have h2 := val_lt wa.1
        have h3 := val_lt wb.1
        rw [Sm_ge L (by rw [HLk.out]; exact Nat.le_refl _), Sm_ge l (by rw [← HL.out]; omega), Sm_ge l' (by rw [← HL'.out]; omega)] at h1
        have h4 : 4294967296 ^ l.length ≤ 4294967296 ^ (k - 1) := Nat.pow_le_pow_right (by omega) (by rw [← HL.out]; omega)
        have h5 : 4294967296 ^ l'.length ≤ 4294967296 ^ (k - 1) := Nat.pow_le_pow_right (by omega) (by rw [← HL'.out]; omega)
        have h6 : 4294967296 ^ k = 4294967296 ^ (k - 1) * 4294967296 := by rw [← Nat.pow_succ]; congr 1; omega
        rcases (show cr = 0 ∨ cr = 1 by omega) with rfl | rfl
        · omega
        · omega
      have HV := Lib.hid hv
      obtain ⟨gx, cap, rfl, _, _⟩ := HO.out.form (by omega)
      clear hv hkk
      go_wp2_with fail
      (with_reducible refine (r_trim_c _ _ k cap L ?_ ?_).mono ?_); (exact Wd.of_own HO.out HI.out.1); (omega); rintro e w1 ⟨A1, n1, c1, rfl, h1, hb1⟩
      go_wp2
      go_ret
      rw [HV.out] at h1
      exact ⟨_, _, _, rfl, h1, hbel.trans (hb1.mono hbel.size)⟩
theorem r_plus_c (w : World) (A : Option Addr) (n c : Nat) (l : List Nat) (wa : Wd w A n c l) (hn : n ≤ 1099511627776) (A' : Option Addr) (n' c' : Nat) (l' : List Nat) (wb : Wd w A' n' c' l') (hn' : n' ≤ 1099511627776) :
    Calls Tryz.prog 63 #[.slice A n c, .slice A' n' c'] w (RetL w (digs (val l + val l'))) := by
  rcases Nat.lt_or_ge n' n with h | h
  · exact r_plus_2 w A n c l wa hn A' n' c' l' wb hn' h
  · exact r_plus_1 w A n c l wa hn A' n' c' l' wb hn' h
end Go.Proofs.YtpnnfbodphflpaaGreatDoor

/- Walks: integer.Text. -/
namespace Go.Proofs.YtpnnfbodphflpaaGreatDoor
open Go Go.RowKit Bn

/-- The table of powers of ten lies there. -/
def Tab (w : World) : Prop := Lib.TabIs Tryz.prog w "internal/strconv.uint64pow10" .u64 Lib.pow10Tab
theorem Tab.belw {w w' : World} (h : Tab w) (hb : Below w.heap.size w w') : Tab w' := Lib.tabBelow_of_tabIs h w' hb
/-- Texts as values. -/
abbrev strV (l : List UInt8) : Value := .string ⟨l.toArray⟩
def strs (ps : List (List UInt8)) : List Value := ps.map strV
theorem strs_len (ps : List (List UInt8)) : (strs ps).length = ps.length := by simp [strs]
theorem strs_one (ps : List (List UInt8)) : ∀ u ∈ strs ps, u.oneCell' = true := by
  intro u hu
  simp only [strs, List.mem_map] at hu
  obtain ⟨x, _, rfl⟩ := hu
  rfl
theorem info_str : (Tryz.prog.info? 9).map (fun i => (i.zero, i.size, i.bytes)) = some (some (.string ⟨#[]⟩), 1, 16) := by kernel_rfl
theorem below_grow (w : World) (k : Nat) (os : Array Obj) : Below w.heap.size w (Sort.grow (w.drewN k) os) :=
  ⟨rfl, rfl, rfl, by simp [Sort.grow], fun j hj => by simp [Sort.grow, Array.getElem?_append_left hj]⟩
/-- strconv.Itoa -/
theorem itoa_v (w : World) (n : Int) (h0 : -9223372036854775808 ≤ n) (h1 : n ≤ 9223372036854775807) (ht : Tab w) :
    Calls Tryz.prog 68 #[.int .i64 n] w (RetV w (strV (Lib.itoa n))) :=
  (Tryz.strconv_Itoa n h0 h1 w ht).mono fun e w' ⟨he, k, os, hw⟩ => ⟨he, by rw [hw]; exact below_grow w k os⟩
/-- Pieces of a text in memory. -/
def StrL (w : World) (p : Value) (ps : List (List UInt8)) : Prop := (ps = [] ∧ p = .slice none 0 0) ∨ (ps ≠ [] ∧ ∃ g cap, p = .slice (some ⟨g, 0, none⟩) ps.length cap ∧ g < w.heap.size ∧ ps.length ≤ cap ∧ ∀ j, j < ps.length → w.cell? ⟨g, j, none⟩ = (strs ps)[j]?)
theorem StrL.belw {w w' : World} {p : Value} {ps : List (List UInt8)} (h : StrL w p ps) (hb : Below w.heap.size w w') : StrL w' p ps := by
  rcases h with h | ⟨h0, g, cap, h1, h2, h3, h4⟩
  · exact .inl h
  · refine .inr ⟨h0, g, cap, h1, Nat.lt_of_lt_of_le h2 hb.size, h3, fun j hj => ?_⟩
    rw [← h4 j hj]
    simp only [World.cell?, hb.block g h2]
/-- An append of nothing. -/
theorem wpList_append_none {P : Program} {w : World} {ops : Array Oper} {rest : List Oper} {o : Oper} {a : Act} {Q : Exit → Act → World → Prop} (hgd : o.guard = none) (s x : Operand) (t : TypeId)
    (ho : o.op = .call { callee := .builtin .append, args := #[s, x], argTypes := #[t, t] })
    (base : Nat) (e : TypeId) (i : TypeInfo) (size : Nat) (ht : P.underlying t = some (.slice e)) (hi : P.info? e = some i)
    (v : Value) (n : Nat) (xs : List Value) (hs : a.eval s = v) (hown : w.ownsRow base e size v n xs) (hx : a.eval x = .slice none 0 0)
    (h : wpList P ops Q rest (a.put o.dst v) w) : wpList P ops Q (o :: rest) a w := by
  refine wpList_plain hgd fun K hK => ?_
  have hrun := run_append_owned_none (P := P) (w := w) base t o.type e i size ht hi v n xs hown
  unfold Oper.wp
  simp [execOp, ho, resolve, invoke, builtin, hs, hx, hrun, Result.andThen]
  exact hK _ _ h
/-- strings.Join with nothing between. -/
theorem join_v (w : World) (p : Value) (ps : List (List UInt8)) (h : StrL w p ps) (hlen : ps.flatten.length ≤ 140737488355328) (hN : ps.length ≤ 140737488355328) :
    Calls Tryz.prog 70 #[p, .string ⟨#[]⟩] w (RetV w (strV ps.flatten)) := by
  rcases h with ⟨rfl, rfl⟩ | ⟨h0, g, cap, rfl, h2, h3, h4⟩
  · exact (Tryz.strings_Join_none none 0 ⟨#[]⟩ w).mono fun e w' ⟨he, hw⟩ => ⟨he, hw ▸ Below.refl _ _⟩
  · have hm : (ps.map fun l => (⟨l.toArray⟩ : ByteArray)).map (·.data.toList) = ps := by
      rw [List.map_map]; exact (List.map_congr_left (fun a _ => by simp)).trans (List.map_id ps)
    have hl : (ps.map fun l => (⟨l.toArray⟩ : ByteArray)).length = ps.length := by simp
    have hJ : Lib.join ((ps.map fun l => (⟨l.toArray⟩ : ByteArray)).map (·.data.toList)) (⟨#[]⟩ : ByteArray).data.toList = ps.flatten := by rw [hm]; exact join_flat ps
    have := Tryz.strings_Join g 0 cap (ps.map fun l => ⟨l.toArray⟩) ⟨#[]⟩ w (fun j x hx => by
      have hj : j < ps.length := by have := (List.getElem?_eq_some_iff.1 hx).1; rw [hl] at this; exact this
      rw [Nat.zero_add, h4 j hj]
      rw [List.getElem?_map] at hx
      unfold strs
      rw [List.getElem?_map]
      cases hp : ps[j]? with
      | none => rw [hp] at hx; simp at hx
      | some y => rw [hp] at hx; simp at hx; subst hx; rfl) h2 (by rw [hl]; exact hN) (by rw [hl]; exact h3) (by rw [hJ]; exact hlen)
    rw [hJ, hl] at this
    exact this
theorem cat_v (a b : List UInt8) : ((⟨a.toArray⟩ : ByteArray) ++ ⟨b.toArray⟩) = ⟨(a ++ b).toArray⟩ := by
  apply ByteArray.ext
  simp [ByteArray.data_append]
theorem itoa_n (w : World) (z : Int) (r : Nat) (d : List UInt8) (hz : z = r) (hr : r < 1000000000) (hd : Lib.decDigits r = d) (ht : Tab w) :
    Calls Tryz.prog 68 #[.int .i64 z] w (RetV w (strV d)) := by
  subst hz hd
  rw [← Lib.itoa_nonneg]
  exact itoa_v w r (by omega) (by omega) ht
theorem repeat_v (w : World) (z : Int) (j : Nat) (d : List UInt8) (hz : z = j) (hj : j < 1000000) (hd : Lib.repeatL [48] j = d) :
    Calls Tryz.prog 69 #[.string ⟨#[48]⟩, .int .i64 z] w (RetV w (strV d)) := by
  subst hz hd
  exact Tryz.strings_Repeat ⟨#[48]⟩ j w (by omega) (by show 1 * j ≤ _; omega)
theorem short_q (w : World) (A : Option Addr) (n c q r q' : Nat) (wa : Wd w A n c (digs q)) (hn : n ≤ 1099511627776) (hr : q % 1000000000 = r) (hq : q / 1000000000 = q') :
    Calls Tryz.prog 67 #[.slice A n c, .int .u32 1000000000] w fun e w' => ∃ A1 n1 c1, e = .returned (.tuple #[.slice A1 n1 c1, .int .u32 (r : Nat)]) ∧ Wd w' A1 n1 c1 (digs q') ∧ Below w.heap.size w w' := by
  have := short_c w A n c (digs q) wa hn 1000000000 (by omega) (by omega)
  rw [val_digs, hr, hq] at this
  exact this
/-- A list of one text, laid; the pieces that it has got behind it. -/
theorem StrL.one (w : World) (S : List UInt8) : StrL (w.alloc (.cells #[strV S] 9)) (.slice (some ⟨w.heap.size, 0, none⟩) 1 1) [S] := by
  refine .inr ⟨by simp, _, _, rfl, by simp, Nat.le_refl _, fun j hj => ?_⟩
  rw [World.cell?_alloc_new]
  have : j = 0 := by simpa using hj
  subst this
  rfl
theorem StrL.own {w : World} {base g cap : Nat} {S : List UInt8} {ps : List (List UInt8)} (h : w.ownsRow base 9 1 (.slice (some ⟨g, 0, none⟩) (1 + ps.length) cap) (1 + ps.length) ([strV S] ++ strs ps)) (hg : g < w.heap.size) :
    StrL w (.slice (some ⟨g, 0, none⟩) (1 + ps.length) cap) (S :: ps) := by
  refine .inr ⟨by simp, g, cap, by rw [List.length_cons, Nat.add_comm], hg, ?_, fun j hj => ?_⟩
  · rcases h.2 with ⟨e, _⟩ | ⟨g', c', cur, e, _, _, hc, _⟩
    · exact absurd e (by simp)
    · injection e with _ _ e2
      rw [List.length_cons]; omega
  · rw [h.cellAt j (by rw [List.length_cons] at hj; omega)]
    rfl
/-- How the loop of Text stands. -/
def TextI (N : Nat) (W0 wr : World) (m p : Value) : Prop := ∃ A1 n1 c1 q ps, m = .slice A1 n1 c1 ∧ n1 ≤ 1099511627000 ∧ Kept (Wd wr A1 n1 c1 (digs q) ∧ TxtI N q ps ∧ StrL wr p ps) ∧ Below W0.heap.size W0 wr
set_option maxRecDepth 100000 in
set_option maxHeartbeats 2000000 in
/-- integer.Text -/
theorem text_C (w : World) (b : Bool) (A : Option Addr) (n c : Nat) (l : List Nat) (wa : Wd w A n c l) (hn : n ≤ 1000000000) (ht : Tab w) :
    Calls Tryz.prog 25 #[.agg #[.bool b, .slice A n c]] w (RetV w (strV (Lib.itoa (WD.z ⟨b, l⟩)))) := by
  have HL := Lib.hid wa.2.1
  have hcm : Canon (WD.m ⟨b, l⟩) := WD.canon_m wa.1
  obtain ⟨i0, hi0, hz0, hz1, hz2⟩ := info_parts info_str
  obtain ⟨M, hM⟩ : ∃ M, WD.m ⟨b, l⟩ = digs M := ⟨_, (digs_val hcm).symm⟩
  have hab : (WD.z ⟨b, l⟩).natAbs = M := by rw [z_nat, hM, val_digs]
  obtain ⟨T, hT⟩ : ∃ T, T = Lib.itoa (WD.z ⟨b, l⟩) := ⟨_, rfl⟩
  rw [itoa_abs, hab] at hT
  rw [itoa_abs, hab, ← hT]
  have HT := Lib.hid hT
  have HTab := Lib.hid ht
  have HM := Lib.hid hM
  have HA := Lib.hid hab
  clear hT ht hM hab hcm
  have b0 : Below w.heap.size w (w.alloc (.cells #[.bool b, .slice A n c] 48)) := (Below.refl _ _).alloc (Nat.le_refl _) _
  have x0 : Blk (w.alloc (.cells #[.bool b, .slice A n c] 48)) w.heap.size 48 #[.bool b, .slice A n c] := blkAt _ _ _ rfl
  by_cases hM0 : M = 0
  · subst hM0
    have hz : (WD.z ⟨b, l⟩) < 0 → False := by have := HA.out; omega
    have hT0 : T = [48] := by rw [HT.out, if_neg (fun h => hz h)]; exact Lib.decDigits_one (by omega)
    subst hT0
    go_enter Tryz.func25, Tryz.ntmps25
    go_wp2_with (go_at_call 66; (with_reducible refine (mag_c _ b A n c l ?_ ?_).mono ?_); (exact wa.belw b0); (omega); rintro e w1 ⟨A1, n1, c1, rfl, h1, hb1⟩; rw [HM.out, digs_zero] at h1; obtain rfl : n1 = 0 := h1.2.1)
    go_ret
    exact ⟨rfl, b0.trans (hb1.mono b0.size)⟩
  · have hMp : 0 < M := Nat.pos_of_ne_zero hM0
    have HMP := Lib.hid hMp
    clear hM0 hMp
    go_enter Tryz.func25, Tryz.ntmps25
    go_wp2_with (go_at_call 66; (with_reducible refine (mag_c _ b A n c l ?_ ?_).mono ?_); (exact wa.belw b0); (omega); rintro e w1 ⟨A1, n1, c1, rfl, h1, hb1⟩; have hn1 : n1 ≤ 1000000000 := h1.m_len (by rw [← HL.out]; exact hn); rw [HM.out] at h1; have e1 : ((n1 : Int) == 0) = false := (by have h9 : n1 ≠ 0 := (fun e => by have h8 := h1.2.1; rw [e] at h8; exact absurd (digs_eq_nil.1 (List.eq_nil_of_length_eq_zero h8.symm)) (by have := HMP.out; omega)); simp; exact h9))
    clear e1
    go_loopw [3, 4] (fun mv pv wr => TextI M w1 wr mv pv) (fun mv _ wr => valOf wr mv)
    case atStart => exact ⟨A1, n1, c1, M, [], rfl, by omega, ⟨h1, TxtI.start HMP.out, .inl ⟨rfl, rfl⟩⟩, brefl _⟩
    case round =>
      obtain ⟨A3, n3, c3, q, ps, rfl, hn3, hK, rr⟩ := hrel
      have hm5 : valOf wr (.slice A3 n3 c3) = q := by rw [hK.1.valOf, val_digs]
      by_cases hq0 : q = 0
      · subst hq0
        have h0 : n3 = 0 := by have := hK.1.2.1; rw [digs_zero] at this; exact this
        subst h0
        have hps : M = M ∧ Lib.decDigits M = ps.flatten := ⟨rfl, hK.2.1.2.1 rfl⟩
        have hln := hK.2.1.len
        have hnd : Lib.nDigits M ≤ 10 * 1000000000 := nDig_words' hn1 (by omega) (by have := h1.vlt (Nat.le_refl _); rw [val_digs] at this; exact this)
        have x1 : Blk w1 w.heap.size 48 #[.bool b, .slice A n c] := x0.below hb1 (by simp)
        have x2 := x1.below rr x1.lt
        have bw := ((b0.trans (hb1.mono b0.size)).trans (rr.mono (by have := hb1.size; have := b0.size; omega)))
        have HX := Lib.hid x2
        have HP := Lib.hid hps.2
        have HA2 := Lib.hid (show (WD.z ⟨b, l⟩) = sgn (WD.s ⟨b, l⟩) M by rw [WD.z_eq, HM.out, val_digs])
        clear hps x1 x2
        cases hs : WD.s ⟨b, l⟩
        · have HS := Lib.hid hs
          have HT2 := Lib.hid (show T = ps.flatten by rw [HT.out, HP.out, HA2.out, hs, if_neg (by simp [sgn])]; rfl)
          clear hs
          go_wp2_with (first
            | (go_at_call 70; (with_reducible refine (join_v _ _ ps ?_ ?_ ?_).mono ?_); (exact hK.2.2); omega; omega; rintro e w2 ⟨rfl, hb2⟩; have x3 := HX.out.below hb2 HX.out.lt; obtain ⟨c0, c1⟩ := x3.c2)
            | (go_at_call 71; (with_reducible refine (neg_e _ b A n c l false ?_ ?_ HS.out).mono ?_); (exact wa.belw (bw.trans (hb2.mono bw.size))); omega; rintro e w3 ⟨rfl, hb3⟩))
          go_ret
          refine ⟨by rw [HT2.out]; rfl, (bw.trans (hb2.mono bw.size)).trans (hb3.mono (by have := hb2.size; have := bw.size; omega))⟩
        · have HS := Lib.hid hs
          have HT2 := Lib.hid (show T = 45 :: ps.flatten by rw [HT.out, HP.out, HA2.out, hs, if_pos (by simp [sgn]; have := HMP.out; omega)]; rfl)
          clear hs
          have hsum : (ps.map List.length).sum ≤ Lib.nDigits M := by rw [← List.length_flatten]; exact hln.1
          go_wp2_with (first
            | (go_at_call 70; (with_reducible refine (join_v _ _ ps ?_ ?_ ?_).mono ?_); (exact hK.2.2); omega; omega; rintro e w2 ⟨rfl, hb2⟩; have x3 := HX.out.below hb2 HX.out.lt; obtain ⟨c0, c1⟩ := x3.c2)
            | (go_at_call 71; (with_reducible refine (neg_e _ b A n c l true ?_ ?_ HS.out).mono ?_); (exact wa.belw (bw.trans (hb2.mono bw.size))); omega; rintro e w3 ⟨rfl, hb3⟩))
          go_ret
          refine ⟨?_, (bw.trans (hb2.mono bw.size)).trans (hb3.mono (by have := hb2.size; have := bw.size; omega))⟩
          rw [HT2.out]
          exact congrArg (fun x => Ending.returned (.string x)) (cat_v [45] ps.flatten)
      · have hqp : 0 < q := Nat.pos_of_ne_zero hq0
        have hn30 : n3 ≠ 0 := fun e => hq0 (digs_eq_nil.1 (List.eq_nil_of_length_eq_zero (by rw [← hK.1.2.1]; exact e)))
        have e1 : decide (0 < n3) = true := by simp; omega
        obtain ⟨r, hr⟩ : ∃ r, q % 1000000000 = r := ⟨_, rfl⟩
        have hr9 : r < 1000000000 := by rw [← hr]; exact Nat.mod_lt _ (by omega)
        obtain ⟨d, hd⟩ : ∃ d, Lib.decDigits r = d := ⟨_, rfl⟩
        obtain ⟨k, hk⟩ : ∃ k, d.length = k := ⟨_, rfl⟩
        have hkn : Lib.nDigits r = k := by rw [← hk, ← hd, Lib.decDigits_length]
        have hk9 : k ≤ 9 := by rw [← hkn]; exact nDig_le (by omega) hr9
        obtain ⟨j, hj⟩ : ∃ j, k + j = 9 := ⟨9 - k, by omega⟩
        obtain ⟨z, hz⟩ : ∃ z, Lib.repeatL [48] j = z := ⟨_, rfl⟩
        have hzl : z.length = j := by rw [← hz, Lib.repeatL_length]; simp
        obtain ⟨q', hq'⟩ : ∃ q', q / 1000000000 = q' := ⟨_, rfl⟩
        have HR := Lib.hid hr
        have HD := Lib.hid hd
        have HZ := Lib.hid hz
        have HQ := Lib.hid hq'
        have HQP := Lib.hid hqp
        have HKN := Lib.hid hkn
        have hlt : q' < q := by rw [← hq']; omega
        have HLT := Lib.hid hlt
        have bw := ((b0.trans (hb1.mono b0.size)).trans (rr.mono (by have := hb1.size; have := b0.size; omega)))
        have hnd : Lib.nDigits M ≤ 10 * 1000000000 := nDig_words' hn1 (by omega) (by have := h1.vlt (Nat.le_refl _); rw [val_digs] at this; exact this)
        have hln := hK.2.1.len
        clear hr hd hz hq' hq0 hqp hn30 hkn hlt
        by_cases h0 : q' = 0
        · subst h0
          by_cases hp0 : ps = []
          · subst hp0
            have hu4 : u4 = .slice none 0 0 := by
              rcases hK.2.2 with h | h
              · exact h.2
              · exact absurd rfl h.1
            subst hu4
            go_wp2_with (first
              | (go_at_call 67; (with_reducible refine (short_q _ A3 n3 c3 q r 0 ?_ ?_ HR.out HQ.out).mono ?_); (exact hK.1); omega; rintro e w2 ⟨A5, n5, c5, rfl, h5, hb2⟩; obtain rfl : n5 = 0 := (by have h9 := h5.2.1; rw [digs_zero] at h9; exact h9))
              | (go_at_call 68; (with_reducible refine (itoa_n _ _ r d ?_ ?_ HD.out ?_).mono ?_); (first | rfl | omega); omega; (exact HTab.out.belw (bw.trans (hb2.mono bw.size))); rintro e w3 ⟨rfl, hb3⟩)
            )
            have bl : Below wr.heap.size wr w3 := (hb2.mono (Nat.le_refl _)).trans (hb3.mono hb2.size)
            have b5 : Below w2.heap.size w2 w3 := hb3
            go_roundw
            case rel =>
              refine ⟨A5, 0, c5, 0, [d], rfl, ?_, ⟨(h5.belw b5).belw ((Below.refl _ _).alloc (Nat.le_refl _) _), by have := hK.2.1.last HQP.out HQ.out; rw [HQ.out, HR.out, HD.out] at this; exact this, ?_⟩, (rr.trans (bl.mono rr.size)).alloc (Nat.le_trans rr.size bl.size) _⟩
              · omega
              · have := StrL.one w3 d
                exact this
            case measure =>
              rw [((h5.belw b5).belw ((Below.refl _ _).alloc (Nat.le_refl _) _)).valOf, hm5, val_digs]; exact HLT.out
          · have hp1 : 0 < ps.length := List.length_pos_iff.2 hp0
            obtain ⟨g, cap, hu4, hg, hcap, hcells0⟩ : ∃ g cap, u4 = .slice (some ⟨g, 0, none⟩) ps.length cap ∧ g < wr.heap.size ∧ ps.length ≤ cap ∧ ∀ j, j < ps.length → wr.cell? ⟨g, j, none⟩ = (strs ps)[j]? := by
              rcases hK.2.2 with h | h
              · exact absurd h.1 hp0
              · exact h.2
            subst hu4
            have hcells : ∀ w', Below wr.heap.size wr w' → ∀ S j u, (strs ps)[j]? = some u → (w'.alloc (.cells #[S] 9)).cell? ((⟨g, 0, none⟩ : Addr).add j) = some u := by
              intro w' hb S j u hu
              have hj : j < ps.length := by have := (List.getElem?_eq_some_iff.1 hu).1; rw [strs_len] at this; exact this
              rw [Lib.add_plain, Nat.zero_add, ← hu, ← hcells0 j hj]
              simp only [World.cell?, Below.heap_alloc _ _ _ (Nat.lt_of_lt_of_le hg hb.size), hb.block g hg]
            go_wp2_with (first
              | (go_at_call 67; (with_reducible refine (short_q _ A3 n3 c3 q r 0 ?_ ?_ HR.out HQ.out).mono ?_); (exact hK.1); omega; rintro e w2 ⟨A5, n5, c5, rfl, h5, hb2⟩; obtain rfl : n5 = 0 := (by have h9 := h5.2.1; rw [digs_zero] at h9; exact h9))
              | (go_at_call 68; (with_reducible refine (itoa_n _ _ r d ?_ ?_ HD.out ?_).mono ?_); (first | rfl | omega); omega; (exact HTab.out.belw (bw.trans (hb2.mono bw.size))); rintro e w3 ⟨rfl, hb3⟩)
              | (at_builtin; refine wpList_append_lies _ rfl _ _ _ rfl w3.heap.size 9 i0 (.string ⟨#[]⟩) 1 16 Tryz.underlying93 hi0 hz0 hz1 hz2 rfl (by omega) _ 1 [strV d] rfl (World.ownsRow_lit w3 #[strV d] 1 (Nat.le_refl _) (by unfold maxLen; omega) rfl) ⟨g, 0, none⟩ ps.length cap (strs ps) rfl (by rw [strs_len, Nat.mul_one]) ?_ (strs_one ps) hp1 (by unfold maxLen; omega) (by omega) (by simp) (w3.heap.size + 1) (by simp) ?_; (exact hcells _ ((hb2.mono (Nat.le_refl _)).trans (hb3.mono hb2.size)) _); intro gx cap2 w5 hown5 hgrow hat hlt5)
            )
            have bl : Below wr.heap.size wr w3 := (hb2.mono (Nat.le_refl _)).trans (hb3.mono hb2.size)
            have b5 : Below w2.heap.size w2 w3 := hb3
            have bg : Below w3.heap.size w3 w5 := ((Below.refl _ _).alloc (Nat.le_refl _) _).grown hgrow (by simp) (own_base (World.ownsRow_lit (e := 9) (size := 1) w3 #[strV d] 1 (Nat.le_refl _) (by unfold maxLen; omega) rfl))
            have bgr : Below w1.heap.size w1 w5 := ((rr.trans (bl.mono rr.size)).alloc (Nat.le_trans rr.size bl.size) _).grown hgrow (by have := rr.size; have := bl.size; simp; omega) (fun k hk => Nat.le_trans (Nat.le_trans rr.size bl.size) ((own_base (World.ownsRow_lit (e := 9) (size := 1) w3 #[strV d] 1 (Nat.le_refl _) (by unfold maxLen; omega) rfl)) k hk))
            go_roundw
            case rel =>
              refine ⟨A5, 0, c5, 0, d :: ps, rfl, ?_, ⟨(h5.belw b5).belw bg, by have := hK.2.1.last HQP.out HQ.out; rw [HQ.out, HR.out, HD.out] at this; exact this, ?_⟩, bgr⟩
              · omega
              · refine StrL.own (base := w3.heap.size) ?_ hlt5
                exact hown5
            case measure =>
              rw [((h5.belw b5).belw bg).valOf, hm5, val_digs]; exact HLT.out
        · by_cases hp0 : ps = []
          · subst hp0
            have hu4 : u4 = .slice none 0 0 := by
              rcases hK.2.2 with h | h
              · exact h.2
              · exact absurd rfl h.1
            subst hu4
            go_wp2_with (first
              | (go_at_call 67; (with_reducible refine (short_q _ A3 n3 c3 q r q' ?_ ?_ HR.out HQ.out).mono ?_); (exact hK.1); omega; rintro e w2 ⟨A5, n5, c5, rfl, h5, hb2⟩; have e5 : decide (0 < n5) = true := (by have : n5 ≠ 0 := (fun e => h0 (digs_eq_nil.1 (List.eq_nil_of_length_eq_zero (by rw [← h5.2.1]; exact e)))); simp; omega))
              | (go_at_call 68; (with_reducible refine (itoa_n _ _ r d ?_ ?_ HD.out ?_).mono ?_); (first | rfl | omega); omega; (exact HTab.out.belw (bw.trans (hb2.mono bw.size))); rintro e w3 ⟨rfl, hb3⟩)
              | (go_at_call 69; (with_reducible refine (repeat_v _ _ j z ?_ ?_ HZ.out).mono ?_); omega; omega; rintro e w4 ⟨rfl, hb4⟩)
            )
            have bl : Below wr.heap.size wr w4 := ((hb2.mono (Nat.le_refl _)).trans (hb3.mono hb2.size)).trans (hb4.mono (Nat.le_trans hb2.size hb3.size))
            have b5 : Below w2.heap.size w2 w4 := hb3.trans (hb4.mono hb3.size)
            go_roundw
            case rel =>
              refine ⟨A5, n5, c5, q', [(z ++ d)], rfl, ?_, ⟨(h5.belw b5).belw ((Below.refl _ _).alloc (Nat.le_refl _) _), by have := hK.2.1.more (by rw [HQ.out]; omega); rw [HQ.out, HR.out, HKN.out, HD.out, show 9 - k = j by omega, HZ.out] at this; exact this, ?_⟩, (rr.trans (bl.mono rr.size)).alloc (Nat.le_trans rr.size bl.size) _⟩
              · rw [h5.2.1]; exact Nat.le_trans (length_digs_le (Nat.lt_trans (by first | exact HLT.out | (have := HLT.out; omega)) (by have := hK.1.vlt (Nat.le_refl _); rw [val_digs] at this; exact this))) hn3
              · have := StrL.one w4 (z ++ d)
                rw [show strV (z ++ d) = .string (⟨z.toArray⟩ ++ ⟨d.toArray⟩) by rw [cat_v]] at this
                exact this
            case measure =>
              rw [((h5.belw b5).belw ((Below.refl _ _).alloc (Nat.le_refl _) _)).valOf, hm5, val_digs]; exact HLT.out
          · have hp1 : 0 < ps.length := List.length_pos_iff.2 hp0
            obtain ⟨g, cap, hu4, hg, hcap, hcells0⟩ : ∃ g cap, u4 = .slice (some ⟨g, 0, none⟩) ps.length cap ∧ g < wr.heap.size ∧ ps.length ≤ cap ∧ ∀ j, j < ps.length → wr.cell? ⟨g, j, none⟩ = (strs ps)[j]? := by
              rcases hK.2.2 with h | h
              · exact absurd h.1 hp0
              · exact h.2
            subst hu4
            have hcells : ∀ w', Below wr.heap.size wr w' → ∀ S j u, (strs ps)[j]? = some u → (w'.alloc (.cells #[S] 9)).cell? ((⟨g, 0, none⟩ : Addr).add j) = some u := by
              intro w' hb S j u hu
              have hj : j < ps.length := by have := (List.getElem?_eq_some_iff.1 hu).1; rw [strs_len] at this; exact this
              rw [Lib.add_plain, Nat.zero_add, ← hu, ← hcells0 j hj]
              simp only [World.cell?, Below.heap_alloc _ _ _ (Nat.lt_of_lt_of_le hg hb.size), hb.block g hg]
            go_wp2_with (first
              | (go_at_call 67; (with_reducible refine (short_q _ A3 n3 c3 q r q' ?_ ?_ HR.out HQ.out).mono ?_); (exact hK.1); omega; rintro e w2 ⟨A5, n5, c5, rfl, h5, hb2⟩; have e5 : decide (0 < n5) = true := (by have : n5 ≠ 0 := (fun e => h0 (digs_eq_nil.1 (List.eq_nil_of_length_eq_zero (by rw [← h5.2.1]; exact e)))); simp; omega))
              | (go_at_call 68; (with_reducible refine (itoa_n _ _ r d ?_ ?_ HD.out ?_).mono ?_); (first | rfl | omega); omega; (exact HTab.out.belw (bw.trans (hb2.mono bw.size))); rintro e w3 ⟨rfl, hb3⟩)
              | (go_at_call 69; (with_reducible refine (repeat_v _ _ j z ?_ ?_ HZ.out).mono ?_); omega; omega; rintro e w4 ⟨rfl, hb4⟩)
              | (at_builtin; refine wpList_append_lies _ rfl _ _ _ rfl w4.heap.size 9 i0 (.string ⟨#[]⟩) 1 16 Tryz.underlying93 hi0 hz0 hz1 hz2 rfl (by omega) _ 1 [.string (⟨z.toArray⟩ ++ ⟨d.toArray⟩)] rfl (World.ownsRow_lit w4 #[.string (⟨z.toArray⟩ ++ ⟨d.toArray⟩)] 1 (Nat.le_refl _) (by unfold maxLen; omega) rfl) ⟨g, 0, none⟩ ps.length cap (strs ps) rfl (by rw [strs_len, Nat.mul_one]) ?_ (strs_one ps) hp1 (by unfold maxLen; omega) (by omega) (by simp) (w4.heap.size + 1) (by simp) ?_; (exact hcells _ (((hb2.mono (Nat.le_refl _)).trans (hb3.mono hb2.size)).trans (hb4.mono (Nat.le_trans hb2.size hb3.size))) _); intro gx cap2 w5 hown5 hgrow hat hlt5)
            )
            have bl : Below wr.heap.size wr w4 := ((hb2.mono (Nat.le_refl _)).trans (hb3.mono hb2.size)).trans (hb4.mono (Nat.le_trans hb2.size hb3.size))
            have b5 : Below w2.heap.size w2 w4 := hb3.trans (hb4.mono hb3.size)
            have bg : Below w4.heap.size w4 w5 := ((Below.refl _ _).alloc (Nat.le_refl _) _).grown hgrow (by simp) (own_base (World.ownsRow_lit (e := 9) (size := 1) w4 #[.string (⟨z.toArray⟩ ++ ⟨d.toArray⟩)] 1 (Nat.le_refl _) (by unfold maxLen; omega) rfl))
            have bgr : Below w1.heap.size w1 w5 := ((rr.trans (bl.mono rr.size)).alloc (Nat.le_trans rr.size bl.size) _).grown hgrow (by have := rr.size; have := bl.size; simp; omega) (fun k hk => Nat.le_trans (Nat.le_trans rr.size bl.size) ((own_base (World.ownsRow_lit (e := 9) (size := 1) w4 #[.string (⟨z.toArray⟩ ++ ⟨d.toArray⟩)] 1 (Nat.le_refl _) (by unfold maxLen; omega) rfl)) k hk))
            go_roundw
            case rel =>
              refine ⟨A5, n5, c5, q', (z ++ d) :: ps, rfl, ?_, ⟨(h5.belw b5).belw bg, by have := hK.2.1.more (by rw [HQ.out]; omega); rw [HQ.out, HR.out, HKN.out, HD.out, show 9 - k = j by omega, HZ.out] at this; exact this, ?_⟩, bgr⟩
              · rw [h5.2.1]; exact Nat.le_trans (length_digs_le (Nat.lt_trans HLT.out (by have := hK.1.vlt (Nat.le_refl _); rw [val_digs] at this; exact this))) hn3
              · refine StrL.own (base := w4.heap.size) ?_ hlt5
                rw [show strV (z ++ d) = .string (⟨z.toArray⟩ ++ ⟨d.toArray⟩) by rw [cat_v]]
                exact hown5
            case measure =>
              rw [((h5.belw b5).belw bg).valOf, hm5, val_digs]; exact HLT.out
end Go.Proofs.YtpnnfbodphflpaaGreatDoor

/- Digits one by one; texts read as numbers: plain. -/
namespace Bn
open Go.Lib
/-- The digits of a number, none of 0. -/
def dg (V : Nat) : List UInt8 := if V = 0 then [] else decDigits V
theorem dg_zero : dg 0 = [] := rfl
theorem dg_pos {V : Nat} (h : 0 < V) : dg V = decDigits V := if_neg (by omega)
theorem dg_step {V : Nat} (h : 0 < V) : dg V = dg (V / 10) ++ [UInt8.ofNat (48 + V % 10)] := by
  unfold dg
  rw [if_neg (by omega)]
  by_cases h1 : V < 10
  · rw [if_pos (by omega), decDigits_one h1, Nat.mod_eq_of_lt h1]; rfl
  · rw [if_neg (by omega)]; conv => lhs; rw [decDigits, dif_neg h1]
/-- How the reference's text grows: k digits of this group are out. -/
def DgI (N q k r : Nat) (s : List UInt8) : Prop := decDigits N = dg (q * 10 ^ (9 - k) + r) ++ s ∧ r < 10 ^ (9 - k)
theorem DgI.start {N Q : Nat} {s : List UInt8} (h : decDigits N = dg Q ++ s) : DgI N (Q / 1000000000) 0 (Q % 1000000000) s := by
  refine ⟨?_, Nat.mod_lt _ (by decide)⟩
  rw [show Q / 1000000000 * 10 ^ (9 - 0) + Q % 1000000000 = Q by rw [Nat.mul_comm]; exact Nat.div_add_mod Q 1000000000]
  exact h
theorem DgI.step {N q k r : Nat} {s : List UInt8} (h : DgI N q k r s) (hk : k < 9) (h0 : 0 < r ∨ 0 < q) : DgI N q (k + 1) (r / 10) ([UInt8.ofNat (48 + r % 10)] ++ s) := by
  obtain ⟨h1, h2⟩ := h
  have e : 10 ^ (9 - k) = 10 ^ (9 - (k + 1)) * 10 := by rw [← Nat.pow_succ]; congr 1; omega
  rw [e] at h1 h2
  have hp : 0 < 10 ^ (9 - (k + 1)) := Nat.pow_pos (by omega)
  unfold DgI
  generalize 10 ^ (9 - (k + 1)) = P at *
  have e2 : q * (P * 10) + r = (q * P + r / 10) * 10 + r % 10 := by rw [← Nat.mul_assoc]; omega
  have h3 : 0 < q * (P * 10) + r := by
    rcases h0 with h | h
    · omega
    · have := Nat.mul_pos h (show 0 < P * 10 by omega); omega
  refine ⟨?_, by omega⟩
  rw [h1, dg_step h3, e2, show ((q * P + r / 10) * 10 + r % 10) / 10 = q * P + r / 10 by omega, show ((q * P + r / 10) * 10 + r % 10) % 10 = r % 10 by omega, List.append_assoc]
theorem DgI.done9 {N q r : Nat} {s : List UInt8} (h : DgI N q 9 r s) : decDigits N = dg q ++ s := by
  obtain ⟨h1, h2⟩ := h
  have : r = 0 := by simpa using h2
  subst this
  simpa using h1
theorem DgI.done0 {N k : Nat} {s : List UInt8} (h : DgI N 0 k 0 s) : decDigits N = dg 0 ++ s := by
  obtain ⟨h1, _⟩ := h
  simpa using h1
theorem dg_len {N Q : Nat} {s : List UInt8} (h : decDigits N = dg Q ++ s) : s.length ≤ nDigits N := by
  rw [← decDigits_length, h, List.length_append]; omega
theorem DgI.len {N q k r : Nat} {s : List UInt8} (h : DgI N q k r s) : s.length ≤ nDigits N := dg_len h.1

/-! ### Texts read -/
def isDg (c : UInt8) : Bool := decide (48 ≤ c.toNat) && decide (c.toNat ≤ 57)
def dval (c : UInt8) : Nat := c.toNat - 48
/-- What digits say. -/
def decVal (l : List UInt8) : Nat := l.foldl (fun a c => a * 10 + dval c) 0
theorem foldl_dec (l : List UInt8) : ∀ a, l.foldl (fun a c => a * 10 + dval c) a = a * 10 ^ l.length + decVal l := by
  unfold decVal
  induction l with
  | nil => intro a; simp
  | cons x r ih =>
    intro a
    rw [List.foldl_cons, ih, List.foldl_cons, ih (0 * 10 + dval x), List.length_cons, Nat.pow_succ, Nat.add_mul]
    rw [Nat.zero_mul, Nat.zero_add, Nat.mul_assoc, Nat.mul_comm 10, Nat.add_assoc]
theorem decVal_app (a b : List UInt8) : decVal (a ++ b) = decVal a * 10 ^ b.length + decVal b := by
  conv => lhs; unfold decVal
  rw [List.foldl_append, foldl_dec]; rfl
theorem decVal_snoc (a : List UInt8) (c : UInt8) : decVal (a ++ [c]) = decVal a * 10 + dval c := by
  rw [decVal_app]; simp [decVal]
theorem decVal_lt : ∀ {l : List UInt8}, l.all isDg = true → decVal l < 10 ^ l.length := by
  intro l
  induction l with
  | nil => intro _; simp [decVal]
  | cons x r ih =>
    intro h
    rw [List.all_cons, Bool.and_eq_true] at h
    have h1 := ih h.2
    have hx : dval x ≤ 9 := by
      have := h.1; unfold isDg at this; simp at this; unfold dval; omega
    have e : decVal (x :: r) = dval x * 10 ^ r.length + decVal r := by
      have := decVal_app [x] r
      simpa [decVal] using this
    rw [e, List.length_cons, Nat.pow_succ]
    have := Nat.mul_le_mul_right (10 ^ r.length) hx
    omega
/-- The digits of a text behind its sign. -/
def tailS (l : List UInt8) : List UInt8 := match l with | 45 :: r => r | l => l
def headM (l : List UInt8) : Bool := match l with | 45 :: _ => true | _ => false
/-- The text of an integer. -/
def okZ (l : List UInt8) : Bool := decide (tailS l ≠ []) && (tailS l).all isDg && !(decide ((tailS l).head? = some 48) && (decide (1 < (tailS l).length) || headM l))
def valZ (l : List UInt8) : Int := if headM l then -(decVal (tailS l) : Int) else decVal (tailS l)
theorem digit_ok {d : Nat} (h : d < 10) : isDg (UInt8.ofNat (48 + d)) = true ∧ dval (UInt8.ofNat (48 + d)) = d := by
  have e : (UInt8.ofNat (48 + d)).toNat = 48 + d := by simp; omega
  unfold isDg dval
  rw [e]
  simp; omega
theorem dec_all (n : Nat) : (decDigits n).all isDg = true ∧ decVal (decDigits n) = n := by
  induction n using Nat.strongRecOn with
  | ind n ih =>
    by_cases h : n < 10
    · rw [decDigits_one h]
      have h1 := digit_ok h
      generalize UInt8.ofNat (48 + n) = c at h1
      refine ⟨by rw [List.all_cons, h1.1]; rfl, ?_⟩
      rw [← List.nil_append [c], decVal_snoc, h1.2]; simp [decVal]
    · have e : decDigits n = decDigits (n / 10) ++ [UInt8.ofNat (48 + n % 10)] := by
        conv => lhs; rw [decDigits, dif_neg h]
      have h1 := ih (n / 10) (by omega)
      have h2 := digit_ok (Nat.mod_lt n (show 0 < 10 by omega))
      generalize UInt8.ofNat (48 + n % 10) = c at h2 e
      refine ⟨by rw [e, List.all_append, h1.1, List.all_cons, h2.1]; rfl, ?_⟩
      rw [e, decVal_snoc, h1.2, h2.2]; omega
theorem dec_ne (n : Nat) : decDigits n ≠ [] := by
  intro h
  have := decDigits_length n
  rw [h] at this
  have := nDigits_pos n
  simp at *; omega
theorem dec_head {n : Nat} (h : 0 < n) : ∃ c r, decDigits n = c :: r ∧ c ≠ 48 ∧ c ≠ 45 := by
  induction n using Nat.strongRecOn with
  | ind n ih =>
    by_cases h1 : n < 10
    · rw [decDigits_one h1]
      refine ⟨_, [], rfl, ?_, ?_⟩
      · intro e
        have := congrArg UInt8.toNat e
        simp at this; omega
      · intro e
        have := congrArg UInt8.toNat e
        simp at this; omega
    · have e : decDigits n = decDigits (n / 10) ++ [UInt8.ofNat (48 + n % 10)] := by
        conv => lhs; rw [decDigits, dif_neg h1]
      obtain ⟨c, r, h2, h3⟩ := ih (n / 10) (by omega) (by omega)
      exact ⟨c, r ++ [UInt8.ofNat (48 + n % 10)], by rw [e, h2]; rfl, h3⟩
theorem itoa_ok (z : Int) : okZ (itoa z) = true ∧ valZ (itoa z) = z := by
  rw [itoa_abs]
  rcases Nat.eq_zero_or_pos z.natAbs with h | h
  · have : z = 0 := by omega
    subst this
    rw [if_neg (by decide), show (0 : Int).natAbs = 0 from rfl, decDigits_one (by omega)]
    decide
  · obtain ⟨c, r, e, h1, h2⟩ := dec_head h
    have ha := dec_all z.natAbs
    by_cases hz : z < 0
    · rw [if_pos hz]
      have et : tailS ([45] ++ decDigits z.natAbs) = decDigits z.natAbs := rfl
      have em : headM ([45] ++ decDigits z.natAbs) = true := rfl
      unfold okZ valZ
      rw [et, em, ha.1, ha.2, e]
      simp [h1]; omega
    · rw [if_neg hz, List.nil_append]
      have et : tailS (decDigits z.natAbs) = decDigits z.natAbs := by rw [e]; unfold tailS; split <;> simp_all
      have em : headM (decDigits z.natAbs) = false := by rw [e]; unfold headM; split <;> simp_all
      unfold okZ valZ
      rw [et, em, ha.1, ha.2, e]
      simp [h1]; omega
end Bn

/- Division bit by bit: plain numbers. -/
namespace Bn
/-- A word of a list is a digit of its value. -/
theorem wd_val {l : List Nat} (h : Wds l) (j : Nat) : wd l j = val l / 4294967296 ^ j % 4294967296 := by
  have e := Sm_ge l (show l.length ≤ j + (l.length + 1) by omega)
  have h1 : Sm (wd l) j < 4294967296 ^ j := Sm_lt (fun i _ => wd_lt h i)
  rw [Sm_add, Sm_shift] at e
  simp only [Nat.add_zero] at e
  generalize Sm (fun i => wd l (j + (i + 1))) l.length = X at e
  rw [← e, Nat.add_mul_div_left _ _ (pow_pos' j), Nat.div_eq_of_lt h1, Nat.zero_add, Nat.add_mul_mod_self_left]
  exact (Nat.mod_eq_of_lt (wd_lt h j)).symm
theorem pow_split (i : Nat) : 4294967296 ^ (i / 32) * 2 ^ (i % 32) = 2 ^ i := by
  have : (4294967296 : Nat) ^ (i / 32) = 2 ^ (32 * (i / 32)) := by rw [Nat.pow_mul]
  rw [this, ← Nat.pow_add, Nat.div_add_mod]
theorem wd_bit {l : List Nat} (h : Wds l) (i : Nat) : wd l (i / 32) / 2 ^ (i % 32) % 2 = val l / 2 ^ i % 2 := by
  rw [wd_val h, ← pow_split i, ← Nat.div_div_eq_div_mul]
  generalize val l / 4294967296 ^ (i / 32) = x
  have hs : i % 32 < 32 := Nat.mod_lt _ (by decide)
  generalize i % 32 = s at *
  have h1 := Nat.testBit_mod_two_pow x 32 s
  simp only [hs, decide_true, Bool.true_and, Nat.testBit_eq_decide_div_mod_eq] at h1
  have h2 : (x % 2 ^ 32 / 2 ^ s % 2 = 1) ↔ (x / 2 ^ s % 2 = 1) := by simpa using h1
  have e : (2 : Nat) ^ 32 = 4294967296 := by decide
  rw [e] at h2
  omega
theorem val_set (L : List Nat) (j x : Nat) (h : j < L.length) : val (L.set j x) + wd L j * 4294967296 ^ j = val L + x * 4294967296 ^ j := by
  have := Sm_set_mid L j x L.length h h
  rw [Sm_ge (L.set j x) (by simp), Sm_ge L (Nat.le_refl _)] at this
  exact this
theorem or_pow {x s : Nat} (hx : x % 2 ^ (s + 1) = 0) : x ||| 2 ^ s = x + 2 ^ s := by
  have h := Nat.shiftLeft_add_eq_or_of_lt (b := 2 ^ s) (i := s + 1) (Nat.pow_lt_pow_right (by omega) (by omega)) (x / 2 ^ (s + 1))
  rw [Nat.shiftLeft_eq, Nat.div_mul_cancel (Nat.dvd_of_mod_eq_zero hx)] at h
  exact h.symm
/-- A bit below all others is set. -/
theorem or_bit {L : List Nat} (h : Wds L) (i : Nat) (hi : i / 32 < L.length) {m : Nat} (hv : val L = m * 2 ^ (i + 1)) :
    wd L (i / 32) ||| 2 ^ (i % 32) = wd L (i / 32) + 2 ^ (i % 32) ∧ wd L (i / 32) + 2 ^ (i % 32) < 4294967296 ∧ val (L.set (i / 32) (wd L (i / 32) + 2 ^ (i % 32))) = val L + 2 ^ i := by
  have hs : i % 32 < 32 := Nat.mod_lt _ (by decide)
  have hx : wd L (i / 32) % 2 ^ (i % 32 + 1) = 0 := by
    rw [wd_val h, hv, Nat.pow_succ, ← pow_split i]
    have e1 : m * (4294967296 ^ (i / 32) * 2 ^ (i % 32) * 2) = 4294967296 ^ (i / 32) * (m * 2 ^ (i % 32 + 1)) := by rw [Nat.pow_succ]; grind
    rw [e1, Nat.mul_div_cancel_left _ (pow_pos' _)]
    have e2 : (4294967296 : Nat) = 2 ^ (i % 32 + 1) * 2 ^ (31 - i % 32) := by rw [← Nat.pow_add, show i % 32 + 1 + (31 - i % 32) = 32 by omega]
    rw [e2, Nat.mod_mul_right_mod, Nat.mul_mod_left]
  refine ⟨or_pow hx, ?_, ?_⟩
  · have h1 : wd L (i / 32) ||| 2 ^ (i % 32) < 2 ^ 32 := Nat.or_lt_two_pow (wd_lt h _) (Nat.pow_lt_pow_right (by omega) hs)
    rw [or_pow hx] at h1; exact h1
  · have h1 := val_set L (i / 32) (wd L (i / 32) + 2 ^ (i % 32)) hi
    rw [Nat.add_mul, Nat.mul_comm (2 ^ (i % 32)), pow_split] at h1
    omega
theorem bit_high (a k : Nat) : a / 2 ^ k = 2 * (a / 2 ^ (k + 1)) + a / 2 ^ k % 2 := by
  rw [Nat.pow_succ, ← Nat.div_div_eq_div_mul]; omega
/-- One bit of a division: the divisor goes in. -/
theorem bit_in {a v k r : Nat} (hr : r = 2 * (a / 2 ^ (k + 1) % v) + a / 2 ^ k % 2) (h : v ≤ r) (hv : 0 < v) :
    a / 2 ^ k / v = 2 * (a / 2 ^ (k + 1) / v) + 1 ∧ a / 2 ^ k % v = r - v := by
  have e := bit_high a k
  generalize a / 2 ^ (k + 1) = hi at *
  generalize hb : a / 2 ^ k % 2 = b at *
  have hb1 : b ≤ 1 := by omega
  rw [e]
  have hm := Nat.mod_lt hi hv
  have hd := Nat.div_add_mod hi v
  have e2 : 2 * hi + b = v * (2 * (hi / v) + 1) + (r - v) := by
    rw [Nat.mul_add, Nat.mul_one]
    have : v * (2 * (hi / v)) = 2 * (v * (hi / v)) := by grind
    omega
  have hlt : r - v < v := by omega
  rw [e2]
  constructor
  · rw [Nat.mul_add_div hv, Nat.div_eq_of_lt hlt, Nat.add_zero]
  · rw [Nat.mul_add_mod, Nat.mod_eq_of_lt hlt]
/-- One bit of a division: the divisor doesn't go in. -/
theorem bit_out {a v k r : Nat} (hr : r = 2 * (a / 2 ^ (k + 1) % v) + a / 2 ^ k % 2) (h : r < v) :
    a / 2 ^ k / v = 2 * (a / 2 ^ (k + 1) / v) ∧ a / 2 ^ k % v = r := by
  have hv : 0 < v := by omega
  have e := bit_high a k
  generalize a / 2 ^ (k + 1) = hi at *
  generalize hb : a / 2 ^ k % 2 = b at *
  rw [e]
  have hd := Nat.div_add_mod hi v
  have e2 : 2 * hi + b = v * (2 * (hi / v)) + r := by
    have : v * (2 * (hi / v)) = 2 * (v * (hi / v)) := by grind
    omega
  rw [e2]
  constructor
  · rw [Nat.mul_add_div hv, Nat.div_eq_of_lt h, Nat.add_zero]
  · rw [Nat.mul_add_mod, Nat.mod_eq_of_lt h]
/-- The doubling loop. -/
def DblI (l L : List Nat) (b k cr : Nat) : Prop := (∀ i, k ≤ i → wd L i = wd l i) ∧ Sm (wd L) k + cr * 4294967296 ^ k = 2 * Sm (wd l) k + b
theorem DblI.start (l : List Nat) (b : Nat) : DblI l l b 0 b := ⟨fun _ _ => rfl, by simp [Sm]⟩
theorem dbl_word {x c : Nat} (hc : c ≤ 1) (hx : x < 4294967296) : (x * 2 % 4294967296 ||| c) = x * 2 % 4294967296 + c ∧ x * 2 % 4294967296 + c < 4294967296 ∧ x / 2147483648 ≤ 1 := by
  refine ⟨?_, by omega, by omega⟩
  have h := Nat.shiftLeft_add_eq_or_of_lt (b := c) (i := 1) (by omega) (x * 2 % 4294967296 / 2)
  rw [Nat.shiftLeft_eq, Nat.pow_one, show x * 2 % 4294967296 / 2 * 2 = x * 2 % 4294967296 by omega] at h
  exact h.symm
theorem DblI.step {l L : List Nat} {b k cr x : Nat} (h : DblI l L b k cr) (hx : wd l k = x) (hlt : x < 4294967296) (hk : k < L.length) :
    DblI l (L.set k (x * 2 % 4294967296 + cr)) b (k + 1) (x / 2147483648) := by
  refine ⟨fun i hi => ?_, ?_⟩
  · rw [wd_set, if_neg (by omega)]; exact h.1 i (by omega)
  · rw [Sm_set_succ _ _ _ hk, Sm, hx, Nat.pow_succ]
    have h2 := h.2
    have e : x * 2 % 4294967296 + x / 2147483648 * 4294967296 = 2 * x := by omega
    have e2 : x * 2 % 4294967296 * 4294967296 ^ k + x / 2147483648 * (4294967296 ^ k * 4294967296) = 2 * (x * 4294967296 ^ k) := by
      have : (x * 2 % 4294967296 + x / 2147483648 * 4294967296) * 4294967296 ^ k = 2 * x * 4294967296 ^ k := by rw [e]
      rw [Nat.add_mul] at this
      have e3 : x / 2147483648 * (4294967296 ^ k * 4294967296) = x / 2147483648 * 4294967296 * 4294967296 ^ k := by grind
      rw [e3, ← Nat.mul_assoc]; exact this
    rw [Nat.add_mul]
    omega
theorem DblI.fin {l L : List Nat} {b k cr : Nat} (h : DblI l L b k cr) (hl : l.length = k) (hL : L.length = k) (hs : 2 * val l + b < 4294967296 ^ k) : val L = 2 * val l + b := by
  have h2 := h.2
  rw [Sm_ge L (by omega), Sm_ge l (by omega)] at h2
  rcases Nat.eq_zero_or_pos cr with e | e
  · subst e; omega
  · have : 1 * 4294967296 ^ k ≤ cr * 4294967296 ^ k := Nat.mul_le_mul_right _ e
    omega
theorem dbl_room {r v b m : Nat} (hr : r < v) (hv : v < 4294967296 ^ m) (hb : b ≤ 1) : 2 * r + b < 4294967296 ^ (m + 1) := by
  rw [Nat.pow_succ]; omega
end Bn

/- Walks: the reference's differences of lists. -/
namespace Go.Proofs.YtpnnfbodphflpaaGreatDoor
open Go Go.RowKit Bn

theorem own_wd {w : World} {base k : Nat} {v : Value} {L : List Nat} (h : w.ownsRow base 84 1 v k (words L)) (hL : L.length = k) (hw : Wds L) : ∃ B cap, v = .slice B k cap ∧ Wd w B k cap L := by
  rcases Nat.eq_zero_or_pos k with h0 | h0
  · have : L = [] := List.eq_nil_of_length_eq_zero (by rw [hL, h0])
    subst this h0
    rcases h.2 with ⟨e, _⟩ | ⟨gx, cap, cur, e, _⟩
    · exact ⟨none, 0, e, Wd.nil_ _⟩
    · exact ⟨_, cap, e, Wd.of_own (e ▸ h) (by simp [Wds])⟩
  · obtain ⟨gx, cap, e, _, _⟩ := h.form h0
    exact ⟨_, cap, e, Wd.of_own (e ▸ h) hw⟩
set_option maxRecDepth 100000 in
set_option maxHeartbeats 1000000 in
/-- linkworkref01.minus -/
theorem r_minus_c (w : World) (A : Option Addr) (n c : Nat) (l : List Nat) (wa : Wd w A n c l) (hn : n ≤ 1099511627776) (A' : Option Addr) (n' c' : Nat) (l' : List Nat) (wb : Wd w A' n' c' l') (hn' : n' ≤ n) (hv : val l' ≤ val l) :
    Calls Tryz.prog 134 #[.slice A n c, .slice A' n' c'] w (RetL w (digs (val l - val l'))) := by
  have HL := Lib.hid wa.2.1
  have HL' := Lib.hid wb.2.1
  have HV := Lib.hid hv
  obtain ⟨i0, hi0, hz0, hz1, hz2⟩ := info_parts info_u32
  clear hv
  go_enter Tryz.func134, Tryz.ntmps134
  go_wp2_with fail
  go_loopw [5, 6, 11] (fun ov cv iv wr => ∃ (k br : Nat) (L : List Nat), k ≤ n ∧ iv = .int .i64 (k : Nat) ∧ cv = .int .u64 (br : Nat) ∧ br ≤ 1 ∧ L.length = k ∧ LessI l l' L k br ∧ wr.ownsRow w.heap.size 84 1 ov k (words L) ∧ Below w.heap.size w wr) (fun _ _ iv _ => n - (intOf iv).toNat)
  case atStart => exact ⟨0, 0, [], Nat.zero_le _, rfl, rfl, by omega, rfl, ⟨by simp [Wds], by simp [Sm]⟩, ⟨rfl, .inl ⟨rfl, rfl⟩⟩, brefl _⟩
  case round =>
    obtain ⟨k, br, L, hk, rfl, rfl, hbr, hLk, hI, hown, hbel⟩ := hrel
    have hKp := Lib.hid ((Kp.refl w).below hbel)
    have HI := Lib.hid hI
    have HLk := Lib.hid hLk
    have HO := Lib.hid hown
    clear hI hLk hown
    by_cases hkM : k < n
    · obtain ⟨x, y, hx, hy⟩ : ∃ x y, wd l k = x ∧ wd l' k = y := ⟨_, _, rfl, rfl⟩
      have hx1 : x < 4294967296 := by rw [← hx]; exact wa.lt k
      have hy1 : y < 4294967296 := by rw [← hy]; exact wb.lt k
      have HX := Lib.hid hx
      have HY := Lib.hid hy
      have hsz := hbel.size
      clear hx hy
      go_wp2_with (first
        | (go_at_call 115; (with_reducible refine (r_word_x _ A n c l ?_ k x HX.out (by omega)).mono ?_); exact wa.keep hKp.out; rintro e w' ⟨rfl, rfl⟩)
        | (go_at_call 115; (with_reducible refine (r_word_x _ A' n' c' l' ?_ k y HY.out (by omega)).mono ?_); exact wb.keep hKp.out; rintro e w' ⟨rfl, rfl⟩)
        | (at_builtin; refine wpList_append_lies _ rfl _ _ _ rfl w.heap.size 84 i0 (.int .u32 0) 1 4 Tryz.underlying22 hi0 hz0 hz1 hz2 rfl (by omega) _ k (words L) rfl (HO.out.alloc _) ⟨wr.heap.size, 0, none⟩ 1 1 [_] rfl rfl (World.news_of_block (heap_alloc_new wr _)) (by simp [Value.oneCell']) (by omega) (by unfold maxLen; omega) (by omega) (by simp; omega) (wr.heap.size + 1) (by simp) ?_; intro gx cap w1 hown1 hgrow hat hlt1))
      go_roundw
      case rel =>
        refine ⟨k + 1, 1 - (4294967296 + x - y - br) / 4294967296, L ++ [(4294967296 + x - y - br) % 4294967296], by omega, by go_num, by congr 1; omega, by omega, by simp [HLk.out], ⟨wds_snoc HI.out.1 (Nat.mod_lt _ (by omega)), ?_⟩, ?_, (hbel.alloc hbel.size _).grown hgrow (by simp; omega) (own_base HO.out)⟩
        · rw [Sm_snoc HLk.out, Sm, Sm, HX.out, HY.out, Nat.pow_succ]
          exact less_step HI.out.2 (by omega)
        · have e : (Value.int .u32 ((4294967296 + (x : Int) - y - br) % 4294967296)) = .int .u32 (((4294967296 + x - y - br) % 4294967296 : Nat) : Int) := by congr 1; omega
          rw [words_snoc, ← e]; exact hown1
      case measure => simp [intOf]; omega
    · have hkk : k = n := by omega
      subst hkk
      have hv2 : val L = val l - val l' := by
        have h1 := HI.out.2
        have h2 := val_lt HI.out.1
        have h3 := HV.out
        rw [HLk.out] at h2
        rw [Sm_ge L (by rw [HLk.out]; exact Nat.le_refl _), Sm_ge l (by rw [← HL.out]; omega), Sm_ge l' (by rw [← HL'.out]; omega)] at h1
        rcases (show br = 0 ∨ br = 1 by omega) with rfl | rfl
        · omega
        · omega
      have HV2 := Lib.hid hv2
      clear hv2
      have hf := own_wd HO.out HLk.out HI.out.1
      obtain ⟨B, cap, rfl, hw⟩ := hf
      have HW := Lib.hid hw
      clear hw
      go_wp2_with fail
      (with_reducible refine (r_trim_c _ _ k cap L ?_ ?_).mono ?_); (exact HW.out); (omega); rintro e w1 ⟨A1, n1, c1, rfl, h1, hb1⟩
      go_wp2
      go_ret
      rw [HV2.out] at h1
      exact ⟨_, _, _, rfl, h1, hbel.trans (hb1.mono hbel.size)⟩
end Go.Proofs.YtpnnfbodphflpaaGreatDoor

/- Walks: the reference's lists that are changed in their place. -/
namespace Go.Proofs.YtpnnfbodphflpaaGreatDoor
open Go Go.RowKit Bn

/-- A slice that owns its row from the row's head, and reads as a list of words. -/
def OwS (w : World) (B g n cap : Nat) (l : List Nat) : Prop := w.ownsRow B 84 1 (.slice (some ⟨g, 0, none⟩) n cap) n (words l) ∧ Wds l
theorem OwS.len {w : World} {B g n cap : Nat} {l : List Nat} (h : OwS w B g n cap l) : n = l.length := by have := h.1.1; rw [words_len] at this; omega
theorem OwS.base {w : World} {B g n cap : Nat} {l : List Nat} (h : OwS w B g n cap l) : B ≤ g := own_base h.1 g rfl
theorem OwS.toWd {w : World} {B g n cap : Nat} {l : List Nat} (h : OwS w B g n cap l) : Wd w (some ⟨g, 0, none⟩) n cap l := Wd.of_own h.1 h.2
theorem OwS.cell {w : World} {B g n cap : Nat} {l : List Nat} (h : OwS w B g n cap l) (i : Nat) (hi : i < n) : w.cell? ⟨g, i, none⟩ = some (.int .u32 (wd l i : Nat)) := by
  rw [h.1.cellAt i (by omega)]; exact words_get (by rw [← h.len]; exact hi)
theorem OwS.frozen {w : World} {B g n cap : Nat} {l : List Nat} (h : OwS w B g n cap l) (i : Nat) : w.frozen? ⟨g, i, none⟩ = false := h.1.frozenAt i
theorem OwS.lt {w : World} {B g n cap : Nat} {l : List Nat} (h : OwS w B g n cap l) : g < w.heap.size := by
  rcases h.1.2 with ⟨e, _⟩ | ⟨g', c', cur, e, _, hg, _⟩
  · cases e
  · injection e with e; injection e with e; injection e with e; subst e; exact lt_of_block hg
theorem OwS.cap {w : World} {B g n cap : Nat} {l : List Nat} (h : OwS w B g n cap l) : n ≤ cap := h.toWd.2.2.1
theorem OwS.cut {w : World} {B g n cap : Nat} {l : List Nat} (h : OwS w B g n cap l) {k : Nat} (hk : k ≤ n) : OwS w B g k cap (l.take k) := by
  have hl := h.len
  refine ⟨⟨by rw [words_len, List.length_take]; omega, ?_⟩, Wds.take h.2 k⟩
  rcases h.1.2 with ⟨e, _⟩ | ⟨g', c', cur, e, hb, hg, hc, hm, hs, ht⟩
  · cases e
  · injection e with e1 _ e2; injection e1 with e1; injection e1 with e1; subst e1 e2
    refine .inr ⟨g, cap, cur, rfl, hb, hg, by omega, hm, hs, ?_⟩
    have : words (l.take k) = (words l).take k := by simp [words, List.map_take]
    rw [this, ← ht, List.take_take]; congr 1; omega
theorem words_set (l : List Nat) (i x : Nat) : (words l).set i (.int .u32 (x : Nat)) = words (l.set i x) := by simp [words, List.map_set]
theorem OwS.set {w : World} {B g n cap : Nat} {l : List Nat} (h : OwS w B g n cap l) (i : Nat) {x : Nat} (hx : x < 4294967296) {z : Int} (hz : z = x) : OwS (w.setCell ⟨g, i, none⟩ (.int .u32 z)) B g n cap (l.set i x) := by
  subst hz
  refine ⟨?_, wds_set h.2 i hx⟩
  rw [← words_set]
  exact (h.1.stored i _).1
/-- All but block g is as it was. -/
def Only (g : Nat) (w w' : World) : Prop := Below g w w' ∧ w'.heap.size = w.heap.size ∧ ∀ b, b ≠ g → w'.heap[b]? = w.heap[b]?
theorem Only.refl (g : Nat) (w : World) : Only g w w := ⟨Below.refl _ _, rfl, fun _ _ => rfl⟩
theorem Only.set {g : Nat} {w w' : World} (h : Only g w w') (i : Nat) (u : Value) : Only g w (w'.setCell ⟨g, i, none⟩ u) :=
  ⟨h.1.setCell (p := ⟨g, i, none⟩) (Nat.le_refl _) u, by rw [← h.2.1]; simp [World.setCell], fun b hb => (Below.heap_setCell w' ⟨g, i, none⟩ u b hb).trans (h.2.2 b hb)⟩
theorem Only.trans {g : Nat} {a b c : World} (h : Only g a b) (k : Only g b c) : Only g a c := ⟨h.1.trans k.1, k.2.1.trans h.2.1, fun x hx => (k.2.2 x hx).trans (h.2.2 x hx)⟩
theorem Only.own {g : Nat} {w w' : World} (h : Only g w w') {B g' n cap : Nat} {l : List Nat} (k : OwS w B g' n cap l) (hg : g' ≠ g) : OwS w' B g' n cap l := by
  refine ⟨⟨k.1.1, ?_⟩, k.2⟩
  rcases k.1.2 with ⟨e, _⟩ | ⟨g1, c', cur, e, hb, hgg, r⟩
  · cases e
  · have e' := e
    injection e with e1 _ e2; injection e1 with e1; injection e1 with e1; subst e1
    exact .inr ⟨g', c', cur, e', hb, (h.2.2 _ hg).trans hgg, r⟩
theorem Only.wd {g : Nat} {w w' : World} (h : Only g w w') {g' o n c : Nat} {l : List Nat} (k : Wd w (some ⟨g', o, none⟩) n c l) (hg : g' ≠ g) : Wd w' (some ⟨g', o, none⟩) n c l := by
  refine ⟨k.1, k.2.1, k.2.2.1, fun hn => ?_⟩
  obtain ⟨g1, o1, cur, fr, e, hb, hc⟩ := k.2.2.2 hn
  have e' := e
  injection e with e1; injection e1 with e1; subst e1
  exact ⟨_, o1, cur, fr, e', hb.same (h.2.2 _ hg), hc⟩
/-- An owned slice of words returned. -/
def RetO (w : World) (l : List Nat) (e : Ending) (w' : World) : Prop := ∃ g k cap, e = .returned (.slice (some ⟨g, 0, none⟩) k cap) ∧ OwS w' w.heap.size g k cap l ∧ Below w.heap.size w w'
/-- linkworkref01.trim -/
theorem r_trim_o (w : World) (A : Option Addr) (n c : Nat) (l : List Nat) (h : Wd w A n c l) (hn : n ≤ 4398046511104) :
    Calls Tryz.prog 73 #[.slice A n c] w (RetO w (digs (val l))) := by
  have HL := Lib.hid h.2.1
  have hcap : n ≤ c := h.2.2.1
  obtain ⟨i0, hi0, hz0, hz1, hz2⟩ := info_parts info_u32
  by_cases h0 : n = 0
  · subst h0
    have HE := Lib.hid (show digs (val l) = [] by rw [List.eq_nil_of_length_eq_zero HL.out.symm]; exact digs_zero)
    clear h hn
    go_enter Tryz.func73, Tryz.ntmps73
    go_wp2_with (at_builtin; refine wpList_append_empty rfl _ _ _ rfl 84 i0 Tryz.underlying22 hi0 _ _ _ rfl rfl ?_)
    go_loop [3] (fun v => v = .slice (some ⟨w.heap.size, 0, none⟩) 0 0) (fun _ => 0)
    case atStart => rfl
    case round =>
      subst hrel
      go_wp2
      go_ret
      refine ⟨_, _, _, rfl, ?_, (Below.refl _ _).alloc (Nat.le_refl _) _⟩
      rw [HE.out]
      exact ⟨World.ownsRow_lit (e := 84) (size := 1) w #[] 0 (Nat.le_refl _) (by simp [maxLen]) rfl, by simp [Wds]⟩
  · obtain ⟨g, o, rfl, hc⟩ := h.at_ (by omega)
    clear hc
    have hp : 0 < n := by omega
    have hown := World.ownsRow_lit (e := 84) (size := 1) w #[] 0 (Nat.le_refl _) (by simp [maxLen]) rfl
    have hnews := (h.keep ((Kp.refl w).alloc (.cells #[] 84))).news (by omega) (Nat.le_refl _)
    have hnl : (words (l.take n)).length = n * 1 := by rw [words_len, List.length_take, ← HL.out]; omega
    have HO := Lib.hid hown
    have HN := Lib.hid hnews
    have HNL := Lib.hid hnl
    have HW := Lib.hid h.1
    clear hown hnews hnl h h0
    go_enter Tryz.func73, Tryz.ntmps73
    go_wp2_with (at_builtin; refine wpList_append_lies _ rfl _ _ _ rfl w.heap.size 84 i0 (.int .u32 0) 1 4 Tryz.underlying22 hi0 hz0 hz1 hz2 rfl (by omega) _ 0 [] rfl HO.out ⟨g, o, none⟩ n c (words (l.take n)) rfl HNL.out HN.out (words_one _) (by omega) (by unfold maxLen; omega) (by omega) (by simp) (w.heap.size + 1) (by simp) ?_; intro gx cap w1 hown1 hgrow hat hlt1)
    simp only [Nat.zero_add, List.nil_append] at hown1
    have hw1 := Wd.of_own hown1 (Wds.take HW.out n)
    rw [List.take_of_length_le (Nat.le_of_eq HL.out.symm)] at hw1
    have hbel := ((Below.refl w.heap.size w).alloc (Nat.le_refl _) (.cells #[] 84)).grown hgrow (by simp) (fun b hb => Nat.le_of_eq (Option.some.inj hb))
    have HW1 := Lib.hid hw1
    rw [List.take_of_length_le (Nat.le_of_eq HL.out.symm)] at hown1
    have HOW := Lib.hid (show OwS w1 w.heap.size gx n cap l from ⟨hown1, HW.out⟩)
    have HB := Lib.hid hbel
    have hcap1 : n ≤ cap := hw1.2.2.1
    clear hown1 hgrow hat hw1 hbel HO HN HNL
    go_loop [3] (fun v => ∃ k : Nat, k ≤ n ∧ v = .slice (some ⟨gx, 0, none⟩) k cap ∧ TrimI l k) (fun v => match v with | .slice _ k _ => k | _ => 0)
    case atStart => exact ⟨n, Nat.le_refl _, by simp, fun i hi => wd_ge (by rw [← HL.out]; exact hi)⟩
    case round =>
      obtain ⟨k, hk, rfl, ht⟩ := hrel
      by_cases h0 : k = 0
      · subst h0
        have HT := Lib.hid ht
        clear ht
        go_wp2
        go_ret
        refine ⟨_, _, _, rfl, ?_, HB.out⟩
        have := digs_of_take HW.out (Nat.zero_le _) HT.out (.inl rfl)
        rw [this]; exact HOW.out.cut (Nat.zero_le _)
      · have hkp : 0 < k := by omega
        obtain ⟨g', o', e, hc⟩ := HW1.out.at_ (by omega)
        injection e with e; injection e with e1 e2
        subst e1 e2
        have hck := hc (k - 1) (by omega)
        rw [Nat.zero_add] at hck
        have hlt := HW1.out.lt (k - 1)
        have HT := Lib.hid ht
        generalize hx : wd l (k - 1) = x at *
        have HX := Lib.hid hx
        clear hc h0 ht hx
        by_cases hz : x = 0
        · subst hz
          go_wp2
          go_round
          case rel => exact ⟨k - 1, by omega, rfl, fun i hi => by
            by_cases he : i = k - 1
            · subst he; exact HX.out
            · exact HT.out i (by omega)⟩
          case measure => dsimp only; omega
        · have hz' : ((x : Int) == 0) = false := by simp; omega
          have HZ := Lib.hid hz
          clear hz
          go_wp2
          go_ret
          have hd := digs_of_take HW.out (by rw [← HL.out]; exact hk) HT.out (.inr (by rw [HX.out]; exact HZ.out))
          refine ⟨_, _, _, rfl, ?_, HB.out⟩
          rw [hd]; exact HOW.out.cut hk
/-- linkworkref01.cut -/
def RetC (w : World) (B g cap : Nat) (l : List Nat) (e : Ending) (w' : World) : Prop := ∃ k, e = .returned (.slice (some ⟨g, 0, none⟩) k cap) ∧ OwS w' B g k cap l ∧ w = w'
set_option maxHeartbeats 1000000 in
theorem r_cut_o (w : World) (B g n cap : Nat) (l : List Nat) (h : OwS w B g n cap l) (hn : n ≤ 4398046511104) :
    Calls Tryz.prog 157 #[.slice (some ⟨g, 0, none⟩) n cap] w (RetC w B g cap (digs (val l))) := by
  have hcap := h.cap
  have HL := Lib.hid h.len
  have HO := Lib.hid h
  clear h
  go_enter Tryz.func157, Tryz.ntmps157
  go_wp2_with fail
  go_loop [0] (fun v => ∃ k : Nat, k ≤ n ∧ v = .slice (some ⟨g, 0, none⟩) k cap ∧ TrimI l k) (fun v => match v with | .slice _ k _ => k | _ => 0)
  case atStart => exact ⟨n, Nat.le_refl _, rfl, fun i hi => wd_ge (by rw [← HL.out]; exact hi)⟩
  case round =>
    obtain ⟨k, hk, rfl, ht⟩ := hrel
    by_cases h0 : k = 0
    · subst h0
      have HT := Lib.hid ht
      clear ht
      go_wp2
      go_ret
      refine ⟨_, rfl, ?_, rfl⟩
      have := digs_of_take HO.out.2 (Nat.zero_le _) HT.out (.inl rfl)
      rw [this]; exact HO.out.cut (Nat.zero_le _)
    · have hkp : 0 < k := by omega
      have hck := HO.out.cell (k - 1) (by omega)
      have hlt := wd_lt HO.out.2 (k - 1)
      have HT := Lib.hid ht
      generalize hx : wd l (k - 1) = x at *
      have HX := Lib.hid hx
      clear h0 ht hx
      by_cases hz : x = 0
      · subst hz
        go_wp2
        go_round
        case rel => exact ⟨k - 1, by omega, rfl, fun i hi => by
          by_cases he : i = k - 1
          · subst he; exact HX.out
          · exact HT.out i (by omega)⟩
        case measure => dsimp only; omega
      · have hz' : ((x : Int) == 0) = false := by simp; omega
        have HZ := Lib.hid hz
        clear hz
        go_wp2
        go_ret
        have hd := digs_of_take HO.out.2 (by rw [← HL.out]; exact hk) HT.out (.inr (by rw [HX.out]; exact HZ.out))
        refine ⟨_, rfl, ?_, rfl⟩
        rw [hd]; exact HO.out.cut hk
end Go.Proofs.YtpnnfbodphflpaaGreatDoor

/- Walks: the reference's halving in place. -/
namespace Go.Proofs.YtpnnfbodphflpaaGreatDoor
open Go Go.RowKit Bn

theorem half_nat {x y : Nat} (hx : x < 4294967296) : (x / 2 ||| y * 2147483648) % 4294967296 = x / 2 + (y % 2) * 2147483648 := by
  have h1 : x / 2 < 2 ^ 31 := by omega
  have h2 : y * 2147483648 ||| x / 2 = y * 2147483648 + x / 2 := by
    have := Nat.shiftLeft_add_eq_or_of_lt h1 y
    rw [Nat.shiftLeft_eq] at this
    exact this.symm
  rw [Nat.or_comm, h2]; omega
def HalveI (l L : List Nat) (j : Nat) : Prop := Wds L ∧ L.length = l.length ∧ (∀ i, j ≤ i → wd L i = wd l i) ∧ 2 * Sm (wd L) j + wd l 0 % 2 = Sm (wd l) j + wd l j % 2 * 4294967296 ^ j
theorem HalveI.start {l : List Nat} (h : Wds l) : HalveI l l 0 := ⟨h, rfl, fun _ _ => rfl, by simp [Sm]⟩
theorem HalveI.step {l L : List Nat} {j : Nat} (h : HalveI l L j) (hj : j < l.length) (hl : Wds l) : HalveI l (L.set j (wd l j / 2 + (wd l (j + 1) % 2) * 2147483648)) (j + 1) := by
  obtain ⟨h1, h2, h3, h4⟩ := h
  have hx := wd_lt hl j
  refine ⟨wds_set h1 j (by omega), by rw [List.length_set]; exact h2, fun i hi => ?_, ?_⟩
  · rw [wd_set, if_neg (by omega)]; exact h3 i (by omega)
  · rw [Sm_set_succ _ _ _ (by omega), Sm]
    generalize wd l j = x at *
    generalize wd l (j + 1) = y at *
    generalize wd l 0 = z at *
    rw [Nat.pow_succ]
    have e : 2 * ((x / 2 + y % 2 * 2147483648) * 4294967296 ^ j) + x % 2 * 4294967296 ^ j = x * 4294967296 ^ j + y % 2 * (4294967296 ^ j * 4294967296) := by
      have hx2 : x = 2 * (x / 2) + x % 2 := by omega
      generalize x / 2 = p at *
      generalize x % 2 = r at *
      subst hx2
      generalize 4294967296 ^ j = P
      grind
    omega
theorem HalveI.fin {l L : List Nat} (h : HalveI l L l.length) : val L = val l / 2 := by
  obtain ⟨h1, h2, h3, h4⟩ := h
  rw [Sm_ge L (by omega), Sm_ge l (Nat.le_refl _), wd_ge (Nat.le_refl _)] at h4
  omega
theorem half_word {x y : Nat} (hx : x < 4294967296) (hy : y < 4294967296) {s : Int} (hs : bits .or .u64 ((x : Int) / 2) ((y : Int) * 2147483648) = s) : IntKind.u32.wrap s = ((x / 2 + y % 2 * 2147483648 : Nat) : Int) := by
  have e1 : (x : Int) / 2 = ((x / 2 : Nat) : Int) := by omega
  have e2 : (y : Int) * 2147483648 = ((y * 2147483648 : Nat) : Int) := by simp
  rw [e1, e2, u64_or_nat _ _ (by omega) (by omega)] at hs
  subst hs
  rw [IntKind.wrap_u32]
  have := half_nat (y := y) hx
  omega
/-- What halve returns: the row halved, in its place. -/
def RetH (w : World) (B g cap : Nat) (l : List Nat) (e : Ending) (w' : World) : Prop := ∃ k, e = .returned (.slice (some ⟨g, 0, none⟩) k cap) ∧ OwS w' B g k cap l ∧ Only g w w'
set_option maxRecDepth 100000 in
set_option maxHeartbeats 1000000 in
/-- linkworkref01.halve -/
theorem r_halve_o (w : World) (B g n cap : Nat) (l : List Nat) (h : OwS w B g n cap l) (hn : n ≤ 1099511627776) :
    Calls Tryz.prog 155 #[.slice (some ⟨g, 0, none⟩) n cap] w (RetH w B g cap (digs (val l / 2))) := by
  have hcap := h.cap
  have hlen := h.len
  have HL := Lib.hid h.len
  have HW := Lib.hid h.2
  have HS := Lib.hid (HalveI.start h.2)
  have HO := Lib.hid h
  clear h hlen
  go_enter Tryz.func155, Tryz.ntmps155
  go_wp2_with fail
  go_loopw [6] (fun iv wr => ∃ (j : Nat) (L : List Nat), j ≤ n ∧ iv = .int .i64 (j : Nat) ∧ HalveI l L j ∧ OwS wr B g n cap L ∧ Only g w wr) (fun iv _ => n - (intOf iv).toNat)
  case atStart => exact ⟨0, l, Nat.zero_le _, rfl, HS.out, HO.out, Only.refl _ _⟩
  case round =>
    obtain ⟨j, L, hj, rfl, hI, hw, hon⟩ := hrel
    have HI := Lib.hid hI
    have HWr := Lib.hid hw
    have HOn := Lib.hid hon
    clear hI hw hon
    by_cases hlt : j < n
    · obtain ⟨x, y, hx, hy⟩ : ∃ x y, wd l j = x ∧ wd l (j + 1) = y := ⟨_, _, rfl, rfl⟩
      have hx1 : x < 4294967296 := by rw [← hx]; exact wd_lt HW.out j
      have hy1 : y < 4294967296 := by rw [← hy]; exact wd_lt HW.out (j + 1)
      have HX := Lib.hid (show wd L j = x by rw [HI.out.2.2.1 j (Nat.le_refl _), hx])
      have HY := Lib.hid (show wd L (j + 1) = y by rw [HI.out.2.2.1 (j + 1) (by omega), hy])
      have HXY := Lib.hid (And.intro hx hy)
      have hck := HWr.out.cell j hlt
      have hfk := HWr.out.frozen j
      obtain ⟨s, hs⟩ : ∃ s, bits .or .u64 ((x : Int) / 2) ((y : Int) * 2147483648) = s := ⟨_, rfl⟩
      have e32 := half_word hx1 hy1 hs
      have HE := Lib.hid e32
      have ej : ((j : Int) + 1) = ((j + 1 : Nat) : Int) := by omega
      have HEJ := Lib.hid ej
      clear hx hy ej
      go_wp2_with (first
        | (go_at_call 115; (with_reducible refine (r_word_x _ (some ⟨g, 0, none⟩) n cap L ?_ j x HX.out (by omega)).mono ?_); exact HWr.out.toWd; rintro e w' ⟨rfl, rfl⟩)
        | (go_at_call 115; rw [HEJ.out]; (with_reducible refine (r_word_x _ (some ⟨g, 0, none⟩) n cap L ?_ (j + 1) y HY.out (by omega)).mono ?_); exact HWr.out.toWd; rintro e w' ⟨rfl, rfl⟩))
      go_roundw
      case rel =>
        have hst := HI.out.step (by rw [← HL.out]; exact hlt) HW.out
        rw [HXY.out.1, HXY.out.2] at hst
        exact ⟨j + 1, _, by omega, by go_num, hst, HWr.out.set j (by omega) (by omega), HOn.out.set j _⟩
      case measure => simp [intOf]; omega
    · have hjn : j = n := by omega
      subst hjn
      have HV := Lib.hid (show val L = val l / 2 from HalveI.fin (by have := HI.out; rw [HL.out] at this; exact this))
      go_wp2_with fail
      (with_reducible refine (r_cut_o _ B g j cap L ?_ ?_).mono ?_); (exact HWr.out); (omega); rintro e w1 ⟨k, rfl, h1, rfl⟩
      go_wp2
      go_ret
      rw [HV.out] at h1
      exact ⟨k, rfl, h1, HOn.out⟩
end Go.Proofs.YtpnnfbodphflpaaGreatDoor

/- Walks: the reference's subtraction in place. -/
namespace Go.Proofs.YtpnnfbodphflpaaGreatDoor
open Go Go.RowKit Bn

theorem Only.wd_ {g : Nat} {w w' : World} (h : Only g w w') {A : Option Addr} {n c : Nat} {l : List Nat} (k : Wd w A n c l) (hne : ∀ ad, A = some ad → ad.block ≠ g) : Wd w' A n c l := by
  refine ⟨k.1, k.2.1, k.2.2.1, fun hn => ?_⟩
  obtain ⟨g1, o1, cur, fr, e, hb, hc⟩ := k.2.2.2 hn
  exact ⟨g1, o1, cur, fr, e, hb.same (h.2.2 _ (hne _ e)), hc⟩
/-- What take leaves. -/
def RetTk (w : World) (B g n cap : Nat) (v : Nat) (e : Ending) (w' : World) : Prop := ∃ L, e = .returned (.tuple #[]) ∧ OwS w' B g n cap L ∧ val L = v ∧ Only g w w'
def TakeI (l l' L : List Nat) (k br : Nat) : Prop := LessI l l' L k br ∧ L.length = l.length ∧ ∀ i, k ≤ i → wd L i = wd l i
set_option maxRecDepth 100000 in
set_option maxHeartbeats 1000000 in
/-- linkworkref01.take -/
theorem r_take_o (w : World) (B g n cap : Nat) (l : List Nat) (h : OwS w B g n cap l) (hn : n ≤ 1099511627776) (A' : Option Addr) (n' c' : Nat) (l' : List Nat) (wb : Wd w A' n' c' l') (hne : ∀ ad, A' = some ad → ad.block ≠ g) (hn' : n' ≤ n) (hv : val l' ≤ val l) :
    Calls Tryz.prog 156 #[.slice (some ⟨g, 0, none⟩) n cap, .slice A' n' c'] w (RetTk w B g n cap (val l - val l')) := by
  have hcap := h.cap
  have HL := Lib.hid h.len
  have HL' := Lib.hid wb.2.1
  have HW := Lib.hid h.2
  have HV := Lib.hid hv
  have HO := Lib.hid h
  have HWB := Lib.hid wb
  have HNE := Lib.hid hne
  clear h hv wb hne
  go_enter Tryz.func156, Tryz.ntmps156
  go_wp2_with fail
  go_loopw [4, 9] (fun cv iv wr => ∃ (k br : Nat) (L : List Nat), k ≤ n ∧ iv = .int .i64 (k : Nat) ∧ cv = .int .u64 (br : Nat) ∧ br ≤ 1 ∧ TakeI l l' L k br ∧ OwS wr B g n cap L ∧ Only g w wr) (fun _ iv _ => n - (intOf iv).toNat)
  case atStart => exact ⟨0, 0, l, Nat.zero_le _, rfl, rfl, by omega, ⟨⟨HW.out, by simp [Sm]⟩, rfl, fun _ _ => rfl⟩, HO.out, Only.refl _ _⟩
  case round =>
    obtain ⟨k, br, L, hk, rfl, rfl, hbr, hI, hw, hon⟩ := hrel
    have HI := Lib.hid hI
    have HWr := Lib.hid hw
    have HOn := Lib.hid hon
    clear hI hw hon
    by_cases hkM : k < n
    · obtain ⟨x, y, hx, hy⟩ : ∃ x y, wd l k = x ∧ wd l' k = y := ⟨_, _, rfl, rfl⟩
      have hx1 : x < 4294967296 := by rw [← hx]; exact wd_lt HW.out k
      have hy1 : y < 4294967296 := by rw [← hy]; exact HWB.out.lt k
      have HX := Lib.hid (show wd L k = x by rw [HI.out.2.2 k (Nat.le_refl _), hx])
      have HY := Lib.hid hy
      have HXl := Lib.hid hx
      have hck := HWr.out.cell k hkM
      have hfk := HWr.out.frozen k
      clear hx hy
      go_wp2_with (first
        | (go_at_call 115; (with_reducible refine (r_word_x _ (some ⟨g, 0, none⟩) n cap L ?_ k x HX.out (by omega)).mono ?_); exact HWr.out.toWd; rintro e w' ⟨rfl, rfl⟩)
        | (go_at_call 115; (with_reducible refine (r_word_x _ A' n' c' l' ?_ k y HY.out (by omega)).mono ?_); exact HOn.out.wd_ HWB.out HNE.out; rintro e w' ⟨rfl, rfl⟩))
      go_roundw
      case rel =>
        refine ⟨k + 1, 1 - (4294967296 + x - y - br) / 4294967296, L.set k ((4294967296 + x - y - br) % 4294967296), by omega, by go_num, by congr 1; omega, by omega, ⟨⟨wds_set HI.out.1.1 _ (Nat.mod_lt _ (by omega)), ?_⟩, by rw [List.length_set]; exact HI.out.2.1, fun i hi => ?_⟩, HWr.out.set k (Nat.mod_lt _ (by omega)) (by omega), HOn.out.set k _⟩
        · rw [Sm_set_succ _ _ _ (by rw [HI.out.2.1, ← HL.out]; exact hkM), Sm, Sm, HXl.out, HY.out, Nat.pow_succ]
          exact less_step HI.out.1.2 (by omega)
        · rw [wd_set, if_neg (by omega)]; exact HI.out.2.2 i (by omega)
      case measure => simp [intOf]; omega
    · have hkk : k = n := by omega
      subst hkk
      have hv2 : val L = val l - val l' := by
        have h1 := HI.out.1.2
        have h2 := val_lt HI.out.1.1
        have h3 := HV.out
        have h4 := HI.out.2.1
        have h5 := HL.out
        rw [h4, ← h5] at h2
        rw [Sm_ge L (by omega), Sm_ge l (by omega), Sm_ge l' (by rw [← HL'.out]; omega)] at h1
        rcases (show br = 0 ∨ br = 1 by omega) with rfl | rfl
        · omega
        · omega
      have HV2 := Lib.hid hv2
      clear hv2
      go_wp2_with fail
      go_end0
      exact ⟨L, rfl, HWr.out, HV2.out, HOn.out⟩
end Go.Proofs.YtpnnfbodphflpaaGreatDoor

/- Walks: the reference's greatest common divisor, by halving and subtracting. -/
namespace Go.Proofs.YtpnnfbodphflpaaGreatDoor
open Go Go.RowKit Bn

/-- Two rows of the call's own, with their numbers. -/
def Two (w wr : World) (N : Nat) (va vb : Value) (x y : Nat) : Prop := ∃ ga na ca gb nb cb, va = .slice (some ⟨ga, 0, none⟩) na ca ∧ vb = .slice (some ⟨gb, 0, none⟩) nb cb ∧ OwS wr w.heap.size ga na ca (digs x) ∧ OwS wr w.heap.size gb nb cb (digs y) ∧ ga ≠ gb ∧ Below w.heap.size w wr ∧ x < 4294967296 ^ N ∧ y < 4294967296 ^ N
theorem own_len {w : World} {B g n cap x N : Nat} (h : OwS w B g n cap (digs x)) (hx : x < 4294967296 ^ N) : n ≤ N := by rw [h.len]; exact length_digs_le hx
theorem own_pos {w : World} {B g n cap x : Nat} (h : OwS w B g n cap (digs x)) (hx : 0 < x) : 0 < n := by
  rw [h.len]; rcases Nat.eq_zero_or_pos (digs x).length with h1 | h1
  · have := digs_eq_nil.1 (List.eq_nil_of_length_eq_zero h1); omega
  · exact h1
theorem wd_digs0 (x : Nat) : wd (digs x) 0 = x % 4294967296 := by
  by_cases h : x = 0
  · subst h; rw [digs_zero]; rfl
  · rw [digs_pos h]; rfl
theorem own_head {w : World} {B g n cap x : Nat} (h : OwS w B g n cap (digs x)) (hx : 0 < x) : w.cell? ⟨g, 0, none⟩ = some (.int .u32 ((x % 4294967296 : Nat) : Int)) := by
  rw [← wd_digs0]; exact h.cell 0 (own_pos h hx)
theorem and_one (p : Nat) (hp : p < 4294967296) : Go.bits .and .u32 (p : Int) 1 = ((p % 2 : Nat) : Int) := by
  have := u32_and_nat p 1 hp (by decide)
  rw [Nat.and_one_is_mod] at this
  exact this
theorem even_u32 {p : Nat} (hp : p < 4294967296) (h : p % 2 = 0) : (Go.bits .and .u32 (p : Int) 1 == 0) = true := by rw [and_one p hp, h]; rfl
theorem odd_u32 {p : Nat} (hp : p < 4294967296) (h : p % 2 = 1) : (Go.bits .and .u32 (p : Int) 1 == 0) = false := by rw [and_one p hp, h]; rfl
theorem OwS.of_digs {w : World} {B g n cap v x : Nat} (h : OwS w B g n cap (digs (val (digs v) / x))) : OwS w B g n cap (digs (v / x)) := by rw [val_digs] at h; exact h
theorem Two.left {w wr w1 : World} {N ga na ca gb nb cb x y u k : Nat} (hT : Two w wr N (.slice (some ⟨ga, 0, none⟩) na ca) (.slice (some ⟨gb, 0, none⟩) nb cb) x y) (ho : OwS w1 w.heap.size ga k ca (digs u)) (hon : Only ga wr w1) (hu : u ≤ x) : Two w w1 N (.slice (some ⟨ga, 0, none⟩) k ca) (.slice (some ⟨gb, 0, none⟩) nb cb) u y := by
  obtain ⟨ga', na', ca', gb', nb', cb', e1, e2, oa, ob, hg, hbl, hxN, hyN⟩ := hT
  injection e1 with e1 e3 e4; injection e1 with e1; injection e1 with e1
  injection e2 with e2 e5 e6; injection e2 with e2; injection e2 with e2
  subst e1 e2 e3 e4 e5 e6
  exact ⟨ga, k, ca, gb, nb, cb, rfl, rfl, ho, hon.own ob (Ne.symm hg), hg, hbl.trans (hon.1.mono oa.base), Nat.lt_of_le_of_lt hu hxN, hyN⟩
theorem Two.swap {w wr : World} {N : Nat} {va vb : Value} {x y : Nat} (hT : Two w wr N va vb x y) : Two w wr N vb va y x := by
  obtain ⟨ga, na, ca, gb, nb, cb, e1, e2, oa, ob, hg, hbl, hxN, hyN⟩ := hT
  exact ⟨gb, nb, cb, ga, na, ca, e2, e1, ob, oa, Ne.symm hg, hbl, hyN, hxN⟩
theorem own_val {w : World} {B g n cap x : Nat} (h : OwS w B g n cap (digs x)) : valOf w (.slice (some ⟨g, 0, none⟩) n cap) = x := by rw [h.toWd.valOf, val_digs]
theorem Two.at_ {w wr : World} {N ga na ca gb nb cb x y : Nat} (hT : Two w wr N (.slice (some ⟨ga, 0, none⟩) na ca) (.slice (some ⟨gb, 0, none⟩) nb cb) x y) : OwS wr w.heap.size ga na ca (digs x) ∧ OwS wr w.heap.size gb nb cb (digs y) ∧ ga ≠ gb ∧ Below w.heap.size w wr ∧ x < 4294967296 ^ N ∧ y < 4294967296 ^ N := by
  obtain ⟨ga', na', ca', gb', nb', cb', e1, e2, h⟩ := hT
  injection e1 with e1 e3 e4; injection e1 with e1; injection e1 with e1
  injection e2 with e2 e5 e6; injection e2 with e2; injection e2 with e2
  subst e1 e2 e3 e4 e5 e6
  exact h
theorem OwS.belw {w w' : World} {B g n cap : Nat} {l : List Nat} (h : OwS w B g n cap l) (hb : Below w.heap.size w w') : OwS w' B g n cap l := by
  refine ⟨⟨h.1.1, ?_⟩, h.2⟩
  rcases h.1.2 with ⟨e, _⟩ | ⟨g', cap', cur, e, hb1, hgg, r⟩
  · cases e
  · exact .inr ⟨g', cap', cur, e, hb1, (hb.block g' (lt_of_block hgg)).trans hgg, r⟩
theorem Two.belw {w wr w1 : World} {N : Nat} {va vb : Value} {x y : Nat} (hT : Two w wr N va vb x y) (hb : Below wr.heap.size wr w1) : Two w w1 N va vb x y := by
  obtain ⟨ga, na, ca, gb, nb, cb, e1, e2, oa, ob, hg, hbl, hxN, hyN⟩ := hT
  exact ⟨ga, na, ca, gb, nb, cb, e1, e2, oa.belw hb, ob.belw hb, hg, hbl.trans (hb.mono hbl.size), hxN, hyN⟩
theorem digs_len_mono {a b : Nat} (h : a ≤ b) : (digs a).length ≤ (digs b).length := length_digs_le (Nat.lt_of_le_of_lt h (by have := val_lt (wds_digs b); rwa [val_digs] at this))
theorem Two.form {w wr : World} {N : Nat} {va vb : Value} {x y : Nat} (hT : Two w wr N va vb x y) : ∃ ga na ca gb nb cb, va = .slice (some ⟨ga, 0, none⟩) na ca ∧ vb = .slice (some ⟨gb, 0, none⟩) nb cb := by
  obtain ⟨ga, na, ca, gb, nb, cb, e1, e2, _⟩ := hT
  exact ⟨ga, na, ca, gb, nb, cb, e1, e2⟩
theorem two_bound {t x x0 N : Nat} (h : x0 = 2 ^ t * x) (hx : 0 < x) (hN : x0 < 4294967296 ^ N) : t < 32 * N := by
  have h1 : 2 ^ t ≤ x0 := by rw [h]; exact Nat.le_mul_of_pos_right _ hx
  have h2 : (4294967296 : Nat) ^ N = 2 ^ (32 * N) := by rw [Nat.pow_mul]
  rw [h2] at hN
  exact (Nat.pow_lt_pow_iff_right (by omega)).1 (Nat.lt_of_le_of_lt h1 hN)
theorem gcd_odd {x y : Nat} (h : ¬ (x % 2 = 0 ∧ y % 2 = 0)) : Nat.gcd x y % 2 = 1 := by
  rcases Nat.mod_two_eq_zero_or_one (Nat.gcd x y) with h1 | h1
  · exfalso
    have h2 : 2 ∣ Nat.gcd x y := Nat.dvd_of_mod_eq_zero h1
    exact h ⟨Nat.mod_eq_zero_of_dvd (Nat.dvd_trans h2 (Nat.gcd_dvd_left x y)), Nat.mod_eq_zero_of_dvd (Nat.dvd_trans h2 (Nat.gcd_dvd_right x y))⟩
  · exact h1
theorem gcd_half {u v G : Nat} (h : Nat.gcd u v = G) (hG : G % 2 = 1) (hu : u % 2 = 0) : Nat.gcd (u / 2) v = G := by
  have hv : v % 2 = 1 := by
    rcases Nat.mod_two_eq_zero_or_one v with h1 | h1
    · exfalso
      have h2 : 2 ∣ Nat.gcd u v := Nat.dvd_gcd (Nat.dvd_of_mod_eq_zero hu) (Nat.dvd_of_mod_eq_zero h1)
      rw [h] at h2
      have := Nat.mod_eq_zero_of_dvd h2
      omega
    · exact h1
  rw [gcd_left_even hu hv]; exact h
set_option maxRecDepth 100000 in
set_option maxHeartbeats 4000000 in
/-- linkworkref01.gcd, of numbers that are not 0 -/
theorem r_gcd_c (w : World) (N : Nat) (hN : N ≤ 1099511627000) (A : Option Addr) (n c : Nat) (l : List Nat) (wa : Wd w A n c l) (hn : n ≤ N) (A' : Option Addr) (n' c' : Nat) (l' : List Nat) (wb : Wd w A' n' c' l') (hn' : n' ≤ N) (h0 : val l ≠ 0) (h0' : val l' ≠ 0) :
    Calls Tryz.prog 131 #[.slice A n c, .slice A' n' c'] w (RetL w (digs (Nat.gcd (val l) (val l')))) := by
  have hvl := wa.vlt hn
  have hvl' := wb.vlt hn'
  obtain ⟨x0, hx0⟩ : ∃ x, val l = x := ⟨_, rfl⟩
  obtain ⟨y0, hy0⟩ : ∃ y, val l' = y := ⟨_, rfl⟩
  rw [hx0] at hvl h0
  rw [hy0] at hvl' h0'
  rw [hx0, hy0]
  have HX0 := Lib.hid hx0
  have HY0 := Lib.hid hy0
  have HVX := Lib.hid hvl
  have HVY := Lib.hid hvl'
  have hxp : 0 < x0 := by omega
  have hyp : 0 < y0 := by omega
  clear hx0 hy0 hvl hvl' h0 h0'
  go_enter Tryz.func131, Tryz.ntmps131
  go_wp2_with fail
  (with_reducible refine (r_trim_o _ A n c l ?_ ?_).mono ?_); (exact wa); (omega); rintro e w1 ⟨ga, na, ca, rfl, h1, hb1⟩
  rw [HX0.out] at h1
  go_wp2_with fail
  (with_reducible refine (r_trim_o _ A' n' c' l' ?_ ?_).mono ?_); (exact wb.belw hb1); (omega); rintro e w2 ⟨gb, nb, cb, rfl, h2, hb2⟩
  rw [HY0.out] at h2
  have hg : ga ≠ gb := by have := h1.lt; have := h2.base; omega
  have h1' : OwS w2 w.heap.size ga na ca (digs x0) := by
    refine ⟨⟨h1.1.1, ?_⟩, h1.2⟩
    rcases h1.1.2 with ⟨e, _⟩ | ⟨g', cap', cur, e, hb, hgg, r⟩
    · cases e
    · exact .inr ⟨g', cap', cur, e, hb, (hb2.block g' (lt_of_block hgg)).trans hgg, r⟩
  have h2' : OwS w2 w.heap.size gb nb cb (digs y0) := by
    refine ⟨⟨h2.1.1, ?_⟩, h2.2⟩
    rcases h2.1.2 with ⟨e, _⟩ | ⟨g', cap', cur, e, hb, r⟩
    · cases e
    · exact .inr ⟨g', cap', cur, e, Nat.le_trans hb1.size hb, r⟩
  have HT := Lib.hid (show Two w w2 N (.slice (some ⟨ga, 0, none⟩) na ca) (.slice (some ⟨gb, 0, none⟩) nb cb) x0 y0 from ⟨ga, na, ca, gb, nb, cb, rfl, rfl, h1', h2', hg, hb1.trans (hb2.mono hb1.size), HVX.out, HVY.out⟩)
  have ea : ((na : Int) == 0) = false := by have := own_pos h1 hxp; simp; omega
  have eb : ((nb : Int) == 0) = false := by have := own_pos h2 hyp; simp; omega
  clear h1 h2 h1' h2' hb1 hb2 hg
  go_wp2_with fail
  go_loopw [0, 1, 5] (fun va vb tv wr => ∃ (x y t : Nat), Two w wr N va vb x y ∧ tv = .int .i64 (t : Nat) ∧ 0 < x ∧ 0 < y ∧ x0 = 2 ^ t * x ∧ y0 = 2 ^ t * y) (fun va _ _ wr => valOf wr va)
  case atStart => exact ⟨x0, y0, 0, HT.out, rfl, hxp, hyp, by simp, by simp⟩
  case round =>
    obtain ⟨x, y, t, hT, rfl, hx, hy, hex, hey⟩ := hrel
    obtain ⟨ga, na, ca, gb, nb, cb, rfl, rfl⟩ := hT.form
    have HT := Lib.hid hT
    have hca := own_head hT.at_.1 hx
    have hcb := own_head hT.at_.2.1 hy
    have hna := own_pos hT.at_.1 hx
    have hnb := own_pos hT.at_.2.1 hy
    have hnaN := own_len hT.at_.1 hT.at_.2.2.2.2.1
    have hnbN := own_len hT.at_.2.1 hT.at_.2.2.2.2.2
    obtain ⟨p, hp⟩ : ∃ p, x % 4294967296 = p := ⟨_, rfl⟩
    obtain ⟨q, hq⟩ : ∃ q, y % 4294967296 = q := ⟨_, rfl⟩
    rw [hp] at hca
    rw [hq] at hcb
    have hp1 : p < 4294967296 := by omega
    have hq1 : q < 4294967296 := by omega
    have hpx : x % 2 = p % 2 := by omega
    have hqy : y % 2 = q % 2 := by omega
    have ht : t < 32 * N := two_bound hex hx HVX.out
    have HE := Lib.hid (And.intro hex hey)
    have HP := Lib.hid (And.intro hpx hqy)
    clear hex hey hp hq hpx hqy hT
    by_cases hpe : p % 2 = 0 ∧ q % 2 = 0
    · have ea := even_u32 hp1 hpe.1
      have eb := even_u32 hq1 hpe.2
      have HPE := Lib.hid hpe
      clear hpe
      go_wp2_with fail
      (with_reducible refine (r_halve_o _ w.heap.size ga na ca (digs x) ?_ ?_).mono ?_); (exact HT.out.at_.1); (omega); rintro e w1 ⟨k1, rfl, o1, hon1⟩
      have HT1 := Lib.hid (HT.out.left o1.of_digs hon1 (Nat.div_le_self _ _))
      clear o1 hon1 hca hcb
      go_wp2_with fail
      (with_reducible refine (r_halve_o _ w.heap.size gb nb cb (digs y) ?_ ?_).mono ?_); (exact HT1.out.at_.2.1); (omega); rintro e w2 ⟨k2, rfl, o2, hon2⟩
      have HT2 := Lib.hid (HT1.out.swap.left o2.of_digs hon2 (Nat.div_le_self _ _)).swap
      clear o2 hon2
      go_wp2_with fail
      go_roundw
      case rel =>
        have h1 : x = 2 * (x / 2) := by have := HP.out.1; have := HPE.out.1; omega
        have h2 : y = 2 * (y / 2) := by have := HP.out.2; have := HPE.out.2; omega
        exact ⟨x / 2, y / 2, t + 1, HT2.out, by go_num, by omega, by omega, by rw [HE.out.1, Nat.pow_succ, Nat.mul_assoc, ← h1], by rw [HE.out.2, Nat.pow_succ, Nat.mul_assoc, ← h2]⟩
      case measure =>
        rw [own_val HT2.out.at_.1, own_val HT.out.at_.1]
        omega
    · have hGo : Nat.gcd x y % 2 = 1 := gcd_odd (by intro h; exact hpe ⟨by have := HP.out.1; omega, by have := HP.out.2; omega⟩)
      obtain ⟨G, hG⟩ : ∃ G, Nat.gcd x y = G := ⟨_, rfl⟩
      rw [hG] at hGo
      have HG := Lib.hid (And.intro hG hGo)
      have hGp : 0 < G := by omega
      clear hG hGo
      rcases (show p % 2 = 1 ∨ (p % 2 = 0 ∧ q % 2 = 1) by omega) with h1 | ⟨h1, h2⟩
      · have ea := odd_u32 hp1 h1
        clear hpe h1
        go_wp2_with fail
        clear ea
        try clear eb
        have e5 : 0 < nb := hnb
        clear hca hcb hp1 hq1 hna hnb hnaN hnbN
        go_loopw [0, 1] (fun va vb wr => ∃ (u v : Nat), Two w wr N va vb u v ∧ 0 < v ∧ Nat.gcd u v = G) (fun va vb wr => valOf wr va + valOf wr vb)
        case atStart => exact ⟨x, y, HT.out, hy, HG.out.1⟩
        case round =>
          rename_i wr2
          obtain ⟨u, v, hT2, hv, hgu⟩ := hrel
          obtain ⟨ga2, na2, ca2, gb2, nb2, cb2, rfl, rfl⟩ := hT2.form
          have HT2 := Lib.hid hT2
          have HGU := Lib.hid hgu
          clear hT2 hgu
          by_cases hu : u = 0
          · subst hu
            have e0 : na2 = 0 := by rw [HT2.out.at_.1.len, digs_zero]; rfl
            subst e0
            have HVG := Lib.hid (show v = G by have := HGU.out; simpa using this)
            go_wp2_with fail
            go_loopw [1, 65] (fun vb iv wr => ∃ (j : Nat) (B : Option Addr) (m cc : Nat), vb = .slice B m cc ∧ Wd wr B m cc (digs (2 ^ j * G)) ∧ m ≤ N ∧ iv = .int .i64 (j : Nat) ∧ j ≤ t ∧ Below w.heap.size w wr) (fun _ iv _ => t - (intOf iv).toNat)
            case atStart =>
              have := HVG.out
              subst this
              exact ⟨0, _, _, _, rfl, by simpa using HT2.out.at_.2.1.toWd, own_len HT2.out.at_.2.1 HT2.out.at_.2.2.2.2.2, rfl, Nat.zero_le _, HT2.out.at_.2.2.2.1⟩
            case round =>
              obtain ⟨j, B, m, cc, rfl, hw, hm, rfl, hj, hbl⟩ := hrel
              have HW := Lib.hid hw
              have HB := Lib.hid hbl
              clear hw hbl
              by_cases hlt : j < t
              · go_wp2_with fail
                (with_reducible refine (r_plus_c _ B m cc (digs (2 ^ j * G)) ?_ ?_ B m cc (digs (2 ^ j * G)) ?_ ?_).mono ?_); (exact HW.out); (omega); (exact HW.out); (omega); rintro e w4 ⟨B', m', cc', rfl, h4, hb4⟩
                have hz : val (digs (2 ^ j * G)) + val (digs (2 ^ j * G)) = 2 ^ (j + 1) * G := by rw [val_digs, Nat.pow_succ]; grind
                rw [hz] at h4
                have HZ := Lib.hid hz
                have H4 := Lib.hid h4
                clear hz h4
                go_wp2_with fail
                go_roundw
                case rel =>
                  refine ⟨j + 1, B', m', cc', rfl, H4.out, ?_, by go_num, by omega, HB.out.trans (hb4.mono HB.out.size)⟩
                  rw [H4.out.2.1]
                  refine length_digs_le (Nat.lt_of_le_of_lt ?_ HVX.out)
                  rw [HE.out.1]
                  refine Nat.le_trans (Nat.mul_le_mul_right G (Nat.pow_le_pow_right (by omega) (show j + 1 ≤ t by omega))) (Nat.mul_le_mul_left _ ?_)
                  rw [← HG.out.1]; exact Nat.gcd_le_left _ hx
                case measure => simp [intOf]; omega
              · have hjt : j = t := by omega
                subst hjt
                go_wp2
                go_ret
                refine ⟨B, m, cc, rfl, ?_, HB.out⟩
                rw [HE.out.1, HE.out.2, Nat.gcd_mul_left, HG.out.1]
                exact HW.out
          · have hup : 0 < u := by omega
            have hnap := own_pos HT2.out.at_.1 hup
            go_wp2_with fail
            go_loopw [0] (fun va wr => ∃ (u' : Nat), Two w wr N va (.slice (some ⟨gb2, 0, none⟩) nb2 cb2) u' v ∧ 0 < u' ∧ Nat.gcd u' v = G ∧ u' ≤ u) (fun va wr => valOf wr va)
            case atStart => exact ⟨u, HT2.out, hup, HGU.out, Nat.le_refl _⟩
            case round =>
              rename_i wr3
              obtain ⟨u', hT3, hu', hgu3, hle3⟩ := hrel
              obtain ⟨ga3, na3, ca3, _, _, _, rfl, _⟩ := hT3.form
              have HT3 := Lib.hid hT3
              have HGU3 := Lib.hid hgu3
              have hc3 := own_head hT3.at_.1 hu'
              have hn3 := own_pos hT3.at_.1 hu'
              have hn3N := own_len hT3.at_.1 hT3.at_.2.2.2.2.1
              obtain ⟨p3, hp3⟩ : ∃ p, u' % 4294967296 = p := ⟨_, rfl⟩
              rw [hp3] at hc3
              have hp31 : p3 < 4294967296 := by omega
              have hpu : u' % 2 = p3 % 2 := by omega
              clear hT3 hgu3 hp3
              by_cases hpe3 : p3 % 2 = 0
              · have ea3 := even_u32 hp31 hpe3
                have HU2 := Lib.hid (show u' % 2 = 0 by omega)
                clear hpe3 hpu
                go_wp2_with fail
                (with_reducible refine (r_halve_o _ w.heap.size ga3 na3 ca3 (digs u') ?_ ?_).mono ?_); (exact HT3.out.at_.1); (omega); rintro e w4 ⟨k4, rfl, o4, hon4⟩
                have HT4 := Lib.hid (HT3.out.left o4.of_digs hon4 (Nat.div_le_self _ _))
                clear o4 hon4 hc3
                go_wp2_with fail
                go_roundw
                case rel =>
                  have := HU2.out
                  exact ⟨u' / 2, HT4.out, by omega, gcd_half HGU3.out HG.out.2 this, by omega⟩
                case measure =>
                  rw [own_val HT4.out.at_.1, own_val HT3.out.at_.1]
                  have := HU2.out
                  omega
              · have ea3 := odd_u32 hp31 (show p3 % 2 = 1 by omega)
                clear hpe3 hpu
                go_wp2_with fail
                clear ea3 hc3
                go_loopw [1] (fun vb wr => ∃ (v' : Nat), Two w wr N (.slice (some ⟨ga3, 0, none⟩) na3 ca3) vb u' v' ∧ 0 < v' ∧ Nat.gcd u' v' = G ∧ v' ≤ v) (fun vb wr => valOf wr vb)
                case atStart => exact ⟨v, HT3.out, hv, HGU3.out, Nat.le_refl _⟩
                case round =>
                  rename_i wr5
                  obtain ⟨v', hT5, hv', hgu5, hle5⟩ := hrel
                  obtain ⟨_, _, _, gb5, nb5, cb5, _, rfl⟩ := hT5.form
                  have HT5 := Lib.hid hT5
                  have HGU5 := Lib.hid hgu5
                  have hc5 := own_head hT5.at_.2.1 hv'
                  have hn5 := own_pos hT5.at_.2.1 hv'
                  have hn5N := own_len hT5.at_.2.1 hT5.at_.2.2.2.2.2
                  obtain ⟨p5, hp5⟩ : ∃ p, v' % 4294967296 = p := ⟨_, rfl⟩
                  rw [hp5] at hc5
                  have hp51 : p5 < 4294967296 := by omega
                  have hpv : v' % 2 = p5 % 2 := by omega
                  clear hT5 hgu5 hp5
                  by_cases hpe5 : p5 % 2 = 0
                  · have ea5 := even_u32 hp51 hpe5
                    have HU2 := Lib.hid (show v' % 2 = 0 by omega)
                    clear hpe5 hpv
                    go_wp2_with fail
                    (with_reducible refine (r_halve_o _ w.heap.size gb5 nb5 cb5 (digs v') ?_ ?_).mono ?_); (exact HT5.out.at_.2.1); (omega); rintro e w6 ⟨k6, rfl, o6, hon6⟩
                    have HT6 := Lib.hid (HT5.out.swap.left o6.of_digs hon6 (Nat.div_le_self _ _)).swap
                    clear o6 hon6 hc5
                    go_wp2_with fail
                    go_roundw
                    case rel =>
                      have := HU2.out
                      exact ⟨v' / 2, HT6.out, by omega, by rw [Nat.gcd_comm]; exact gcd_half (by rw [Nat.gcd_comm]; exact HGU5.out) HG.out.2 this, by omega⟩
                    case measure =>
                      rw [own_val HT6.out.at_.2.1, own_val HT5.out.at_.2.1]
                      have := HU2.out
                      omega
                  · have ea5 := odd_u32 hp51 (show p5 % 2 = 1 by omega)
                    clear hpe5 hpv
                    go_wp2_with fail
                    clear ea5 hc5
                    (with_reducible refine (r_compare_c _ (some ⟨ga3, 0, none⟩) na3 ca3 (digs u') ?_ ?_ (some ⟨gb5, 0, none⟩) nb5 cb5 (digs v') ?_ ?_).mono ?_); (exact HT5.out.at_.1.toWd); (omega); (exact HT5.out.at_.2.1.toWd); (omega); rintro e w6 ⟨rfl, hb6⟩
                    have HT6 := Lib.hid (HT5.out.belw hb6)
                    clear hb6
                    rw [val_digs, val_digs]
                    by_cases hlt : u' < v'
                    · rw [show cmpN u' v' = -1 by unfold cmpN; rw [if_pos hlt]]
                      have HLE := Lib.hid (Nat.le_of_lt hlt)
                      clear hlt
                      go_wp2_with fail
                      (with_reducible refine (r_take_o _ w.heap.size gb5 nb5 cb5 (digs v') ?_ ?_ (some ⟨ga3, 0, none⟩) na3 ca3 (digs u') ?_ ?_ ?_ ?_).mono ?_); (exact HT6.out.at_.2.1); (omega); (exact HT6.out.at_.1.toWd); (intro ad e; injection e with e; subst e; exact HT6.out.at_.2.2.1); (rw [HT6.out.at_.2.1.len, HT6.out.at_.1.len]; exact digs_len_mono HLE.out); (rw [val_digs, val_digs]; exact HLE.out); rintro e w7 ⟨L, rfl, o7, hv7, hon7⟩
                      rw [val_digs, val_digs] at hv7
                      have HV7 := Lib.hid hv7
                      have HO7 := Lib.hid o7
                      have HON7 := Lib.hid hon7
                      clear hv7 o7 hon7
                      go_wp2_with fail
                      (with_reducible refine (r_cut_o _ w.heap.size gb5 nb5 cb5 L ?_ ?_).mono ?_); (exact HO7.out); (omega); rintro e w8 ⟨k8, rfl, o8, rfl⟩
                      rw [HV7.out] at o8
                      have HT8 := Lib.hid (HT6.out.swap.left o8 HON7.out (Nat.sub_le _ _))
                      clear o8
                      go_wp2_with fail
                      go_roundw
                      case rel => exact ⟨v' - u', u', HT8.out, hu', by rw [gcd_sub HLE.out]; rw [Nat.gcd_comm]; exact HGU5.out⟩
                      case measure =>
                        rw [own_val HT8.out.at_.1, own_val HT8.out.at_.2.1, own_val HT2.out.at_.1, own_val HT2.out.at_.2.1]
                        have := HLE.out
                        omega

                    · have hcn : decide (cmpN u' v' < 0) = false := by unfold cmpN; rw [if_neg hlt]; split <;> decide
                      have HLE := Lib.hid (Nat.le_of_not_lt hlt)
                      obtain ⟨cm, hcm⟩ : ∃ cm, cmpN u' v' = cm := ⟨_, rfl⟩
                      rw [hcm] at hcn ⊢
                      clear hlt hcm
                      go_wp2_with fail
                      (with_reducible refine (r_take_o _ w.heap.size ga3 na3 ca3 (digs u') ?_ ?_ (some ⟨gb5, 0, none⟩) nb5 cb5 (digs v') ?_ ?_ ?_ ?_).mono ?_); (exact HT6.out.at_.1); (omega); (exact HT6.out.at_.2.1.toWd); (intro ad e; injection e with e; subst e; exact Ne.symm HT6.out.at_.2.2.1); (rw [HT6.out.at_.1.len, HT6.out.at_.2.1.len]; exact digs_len_mono HLE.out); (rw [val_digs, val_digs]; exact HLE.out); rintro e w7 ⟨L, rfl, o7, hv7, hon7⟩
                      rw [val_digs, val_digs] at hv7
                      have HV7 := Lib.hid hv7
                      have HO7 := Lib.hid o7
                      have HON7 := Lib.hid hon7
                      clear hv7 o7 hon7
                      go_wp2_with fail
                      (with_reducible refine (r_cut_o _ w.heap.size ga3 na3 ca3 L ?_ ?_).mono ?_); (exact HO7.out); (omega); rintro e w8 ⟨k8, rfl, o8, rfl⟩
                      rw [HV7.out] at o8
                      have HT8 := Lib.hid (HT6.out.left o8 HON7.out (Nat.sub_le _ _))
                      clear o8
                      go_wp2_with fail
                      go_roundw
                      case rel => exact ⟨u' - v', v', HT8.out, hv', by rw [gcd_sub HLE.out]; exact HGU5.out⟩
                      case measure =>
                        rw [own_val HT8.out.at_.1, own_val HT8.out.at_.2.1, own_val HT2.out.at_.1, own_val HT2.out.at_.2.1]
                        have := HLE.out
                        omega


      · have ea := even_u32 hp1 h1
        have eb := odd_u32 hq1 h2
        clear h2
        clear hpe h1
        go_wp2_with fail
        clear ea
        try clear eb
        have e5 : 0 < nb := hnb
        clear hca hcb hp1 hq1 hna hnb hnaN hnbN
        go_loopw [0, 1] (fun va vb wr => ∃ (u v : Nat), Two w wr N va vb u v ∧ 0 < v ∧ Nat.gcd u v = G) (fun va vb wr => valOf wr va + valOf wr vb)
        case atStart => exact ⟨x, y, HT.out, hy, HG.out.1⟩
        case round =>
          rename_i wr2
          obtain ⟨u, v, hT2, hv, hgu⟩ := hrel
          obtain ⟨ga2, na2, ca2, gb2, nb2, cb2, rfl, rfl⟩ := hT2.form
          have HT2 := Lib.hid hT2
          have HGU := Lib.hid hgu
          clear hT2 hgu
          by_cases hu : u = 0
          · subst hu
            have e0 : na2 = 0 := by rw [HT2.out.at_.1.len, digs_zero]; rfl
            subst e0
            have HVG := Lib.hid (show v = G by have := HGU.out; simpa using this)
            go_wp2_with fail
            go_loopw [1, 65] (fun vb iv wr => ∃ (j : Nat) (B : Option Addr) (m cc : Nat), vb = .slice B m cc ∧ Wd wr B m cc (digs (2 ^ j * G)) ∧ m ≤ N ∧ iv = .int .i64 (j : Nat) ∧ j ≤ t ∧ Below w.heap.size w wr) (fun _ iv _ => t - (intOf iv).toNat)
            case atStart =>
              have := HVG.out
              subst this
              exact ⟨0, _, _, _, rfl, by simpa using HT2.out.at_.2.1.toWd, own_len HT2.out.at_.2.1 HT2.out.at_.2.2.2.2.2, rfl, Nat.zero_le _, HT2.out.at_.2.2.2.1⟩
            case round =>
              obtain ⟨j, B, m, cc, rfl, hw, hm, rfl, hj, hbl⟩ := hrel
              have HW := Lib.hid hw
              have HB := Lib.hid hbl
              clear hw hbl
              by_cases hlt : j < t
              · go_wp2_with fail
                (with_reducible refine (r_plus_c _ B m cc (digs (2 ^ j * G)) ?_ ?_ B m cc (digs (2 ^ j * G)) ?_ ?_).mono ?_); (exact HW.out); (omega); (exact HW.out); (omega); rintro e w4 ⟨B', m', cc', rfl, h4, hb4⟩
                have hz : val (digs (2 ^ j * G)) + val (digs (2 ^ j * G)) = 2 ^ (j + 1) * G := by rw [val_digs, Nat.pow_succ]; grind
                rw [hz] at h4
                have HZ := Lib.hid hz
                have H4 := Lib.hid h4
                clear hz h4
                go_wp2_with fail
                go_roundw
                case rel =>
                  refine ⟨j + 1, B', m', cc', rfl, H4.out, ?_, by go_num, by omega, HB.out.trans (hb4.mono HB.out.size)⟩
                  rw [H4.out.2.1]
                  refine length_digs_le (Nat.lt_of_le_of_lt ?_ HVX.out)
                  rw [HE.out.1]
                  refine Nat.le_trans (Nat.mul_le_mul_right G (Nat.pow_le_pow_right (by omega) (show j + 1 ≤ t by omega))) (Nat.mul_le_mul_left _ ?_)
                  rw [← HG.out.1]; exact Nat.gcd_le_left _ hx
                case measure => simp [intOf]; omega
              · have hjt : j = t := by omega
                subst hjt
                go_wp2
                go_ret
                refine ⟨B, m, cc, rfl, ?_, HB.out⟩
                rw [HE.out.1, HE.out.2, Nat.gcd_mul_left, HG.out.1]
                exact HW.out
          · have hup : 0 < u := by omega
            have hnap := own_pos HT2.out.at_.1 hup
            go_wp2_with fail
            go_loopw [0] (fun va wr => ∃ (u' : Nat), Two w wr N va (.slice (some ⟨gb2, 0, none⟩) nb2 cb2) u' v ∧ 0 < u' ∧ Nat.gcd u' v = G ∧ u' ≤ u) (fun va wr => valOf wr va)
            case atStart => exact ⟨u, HT2.out, hup, HGU.out, Nat.le_refl _⟩
            case round =>
              rename_i wr3
              obtain ⟨u', hT3, hu', hgu3, hle3⟩ := hrel
              obtain ⟨ga3, na3, ca3, _, _, _, rfl, _⟩ := hT3.form
              have HT3 := Lib.hid hT3
              have HGU3 := Lib.hid hgu3
              have hc3 := own_head hT3.at_.1 hu'
              have hn3 := own_pos hT3.at_.1 hu'
              have hn3N := own_len hT3.at_.1 hT3.at_.2.2.2.2.1
              obtain ⟨p3, hp3⟩ : ∃ p, u' % 4294967296 = p := ⟨_, rfl⟩
              rw [hp3] at hc3
              have hp31 : p3 < 4294967296 := by omega
              have hpu : u' % 2 = p3 % 2 := by omega
              clear hT3 hgu3 hp3
              by_cases hpe3 : p3 % 2 = 0
              · have ea3 := even_u32 hp31 hpe3
                have HU2 := Lib.hid (show u' % 2 = 0 by omega)
                clear hpe3 hpu
                go_wp2_with fail
                (with_reducible refine (r_halve_o _ w.heap.size ga3 na3 ca3 (digs u') ?_ ?_).mono ?_); (exact HT3.out.at_.1); (omega); rintro e w4 ⟨k4, rfl, o4, hon4⟩
                have HT4 := Lib.hid (HT3.out.left o4.of_digs hon4 (Nat.div_le_self _ _))
                clear o4 hon4 hc3
                go_wp2_with fail
                go_roundw
                case rel =>
                  have := HU2.out
                  exact ⟨u' / 2, HT4.out, by omega, gcd_half HGU3.out HG.out.2 this, by omega⟩
                case measure =>
                  rw [own_val HT4.out.at_.1, own_val HT3.out.at_.1]
                  have := HU2.out
                  omega
              · have ea3 := odd_u32 hp31 (show p3 % 2 = 1 by omega)
                clear hpe3 hpu
                go_wp2_with fail
                clear ea3 hc3
                go_loopw [1] (fun vb wr => ∃ (v' : Nat), Two w wr N (.slice (some ⟨ga3, 0, none⟩) na3 ca3) vb u' v' ∧ 0 < v' ∧ Nat.gcd u' v' = G ∧ v' ≤ v) (fun vb wr => valOf wr vb)
                case atStart => exact ⟨v, HT3.out, hv, HGU3.out, Nat.le_refl _⟩
                case round =>
                  rename_i wr5
                  obtain ⟨v', hT5, hv', hgu5, hle5⟩ := hrel
                  obtain ⟨_, _, _, gb5, nb5, cb5, _, rfl⟩ := hT5.form
                  have HT5 := Lib.hid hT5
                  have HGU5 := Lib.hid hgu5
                  have hc5 := own_head hT5.at_.2.1 hv'
                  have hn5 := own_pos hT5.at_.2.1 hv'
                  have hn5N := own_len hT5.at_.2.1 hT5.at_.2.2.2.2.2
                  obtain ⟨p5, hp5⟩ : ∃ p, v' % 4294967296 = p := ⟨_, rfl⟩
                  rw [hp5] at hc5
                  have hp51 : p5 < 4294967296 := by omega
                  have hpv : v' % 2 = p5 % 2 := by omega
                  clear hT5 hgu5 hp5
                  by_cases hpe5 : p5 % 2 = 0
                  · have ea5 := even_u32 hp51 hpe5
                    have HU2 := Lib.hid (show v' % 2 = 0 by omega)
                    clear hpe5 hpv
                    go_wp2_with fail
                    (with_reducible refine (r_halve_o _ w.heap.size gb5 nb5 cb5 (digs v') ?_ ?_).mono ?_); (exact HT5.out.at_.2.1); (omega); rintro e w6 ⟨k6, rfl, o6, hon6⟩
                    have HT6 := Lib.hid (HT5.out.swap.left o6.of_digs hon6 (Nat.div_le_self _ _)).swap
                    clear o6 hon6 hc5
                    go_wp2_with fail
                    go_roundw
                    case rel =>
                      have := HU2.out
                      exact ⟨v' / 2, HT6.out, by omega, by rw [Nat.gcd_comm]; exact gcd_half (by rw [Nat.gcd_comm]; exact HGU5.out) HG.out.2 this, by omega⟩
                    case measure =>
                      rw [own_val HT6.out.at_.2.1, own_val HT5.out.at_.2.1]
                      have := HU2.out
                      omega
                  · have ea5 := odd_u32 hp51 (show p5 % 2 = 1 by omega)
                    clear hpe5 hpv
                    go_wp2_with fail
                    clear ea5 hc5
                    (with_reducible refine (r_compare_c _ (some ⟨ga3, 0, none⟩) na3 ca3 (digs u') ?_ ?_ (some ⟨gb5, 0, none⟩) nb5 cb5 (digs v') ?_ ?_).mono ?_); (exact HT5.out.at_.1.toWd); (omega); (exact HT5.out.at_.2.1.toWd); (omega); rintro e w6 ⟨rfl, hb6⟩
                    have HT6 := Lib.hid (HT5.out.belw hb6)
                    clear hb6
                    rw [val_digs, val_digs]
                    by_cases hlt : u' < v'
                    · rw [show cmpN u' v' = -1 by unfold cmpN; rw [if_pos hlt]]
                      have HLE := Lib.hid (Nat.le_of_lt hlt)
                      clear hlt
                      go_wp2_with fail
                      (with_reducible refine (r_take_o _ w.heap.size gb5 nb5 cb5 (digs v') ?_ ?_ (some ⟨ga3, 0, none⟩) na3 ca3 (digs u') ?_ ?_ ?_ ?_).mono ?_); (exact HT6.out.at_.2.1); (omega); (exact HT6.out.at_.1.toWd); (intro ad e; injection e with e; subst e; exact HT6.out.at_.2.2.1); (rw [HT6.out.at_.2.1.len, HT6.out.at_.1.len]; exact digs_len_mono HLE.out); (rw [val_digs, val_digs]; exact HLE.out); rintro e w7 ⟨L, rfl, o7, hv7, hon7⟩
                      rw [val_digs, val_digs] at hv7
                      have HV7 := Lib.hid hv7
                      have HO7 := Lib.hid o7
                      have HON7 := Lib.hid hon7
                      clear hv7 o7 hon7
                      go_wp2_with fail
                      (with_reducible refine (r_cut_o _ w.heap.size gb5 nb5 cb5 L ?_ ?_).mono ?_); (exact HO7.out); (omega); rintro e w8 ⟨k8, rfl, o8, rfl⟩
                      rw [HV7.out] at o8
                      have HT8 := Lib.hid (HT6.out.swap.left o8 HON7.out (Nat.sub_le _ _))
                      clear o8
                      go_wp2_with fail
                      go_roundw
                      case rel => exact ⟨v' - u', u', HT8.out, hu', by rw [gcd_sub HLE.out]; rw [Nat.gcd_comm]; exact HGU5.out⟩
                      case measure =>
                        rw [own_val HT8.out.at_.1, own_val HT8.out.at_.2.1, own_val HT2.out.at_.1, own_val HT2.out.at_.2.1]
                        have := HLE.out
                        omega

                    · have hcn : decide (cmpN u' v' < 0) = false := by unfold cmpN; rw [if_neg hlt]; split <;> decide
                      have HLE := Lib.hid (Nat.le_of_not_lt hlt)
                      obtain ⟨cm, hcm⟩ : ∃ cm, cmpN u' v' = cm := ⟨_, rfl⟩
                      rw [hcm] at hcn ⊢
                      clear hlt hcm
                      go_wp2_with fail
                      (with_reducible refine (r_take_o _ w.heap.size ga3 na3 ca3 (digs u') ?_ ?_ (some ⟨gb5, 0, none⟩) nb5 cb5 (digs v') ?_ ?_ ?_ ?_).mono ?_); (exact HT6.out.at_.1); (omega); (exact HT6.out.at_.2.1.toWd); (intro ad e; injection e with e; subst e; exact Ne.symm HT6.out.at_.2.2.1); (rw [HT6.out.at_.1.len, HT6.out.at_.2.1.len]; exact digs_len_mono HLE.out); (rw [val_digs, val_digs]; exact HLE.out); rintro e w7 ⟨L, rfl, o7, hv7, hon7⟩
                      rw [val_digs, val_digs] at hv7
                      have HV7 := Lib.hid hv7
                      have HO7 := Lib.hid o7
                      have HON7 := Lib.hid hon7
                      clear hv7 o7 hon7
                      go_wp2_with fail
                      (with_reducible refine (r_cut_o _ w.heap.size ga3 na3 ca3 L ?_ ?_).mono ?_); (exact HO7.out); (omega); rintro e w8 ⟨k8, rfl, o8, rfl⟩
                      rw [HV7.out] at o8
                      have HT8 := Lib.hid (HT6.out.left o8 HON7.out (Nat.sub_le _ _))
                      clear o8
                      go_wp2_with fail
                      go_roundw
                      case rel => exact ⟨u' - v', v', HT8.out, hv', by rw [gcd_sub HLE.out]; exact HGU5.out⟩
                      case measure =>
                        rw [own_val HT8.out.at_.1, own_val HT8.out.at_.2.1, own_val HT2.out.at_.1, own_val HT2.out.at_.2.1]
                        have := HLE.out
                        omega


end Go.Proofs.YtpnnfbodphflpaaGreatDoor

/- Walks: the reference's greatest common divisor, of any lists. -/
namespace Go.Proofs.YtpnnfbodphflpaaGreatDoor
open Go Go.RowKit Bn
set_option maxRecDepth 100000 in
set_option maxHeartbeats 2000000 in
theorem r_gcd_z (w : World) (A : Option Addr) (n c : Nat) (l : List Nat) (wa : Wd w A n c l) (hn : n ≤ 1099511627000) (A' : Option Addr) (n' c' : Nat) (l' : List Nat) (wb : Wd w A' n' c' l') (hn' : n' ≤ 1099511627000) (h0 : val l = 0 ∨ val l' = 0) :
    Calls Tryz.prog 131 #[.slice A n c, .slice A' n' c'] w (RetL w (digs (Nat.gcd (val l) (val l')))) := by
  have H0 := Lib.hid h0
  clear h0
  go_enter Tryz.func131, Tryz.ntmps131
  go_wp2_with fail
  (with_reducible refine (r_trim_o _ A n c l ?_ ?_).mono ?_); (exact wa); (omega); rintro e w1 ⟨ga, na, ca, rfl, h1, hb1⟩
  go_wp2_with fail
  (with_reducible refine (r_trim_o _ A' n' c' l' ?_ ?_).mono ?_); (exact wb.belw hb1); (omega); rintro e w2 ⟨gb, nb, cb, rfl, h2, hb2⟩
  have HB := Lib.hid (hb1.trans (hb2.mono hb1.size))
  have H1 := Lib.hid (h1.belw hb2)
  have H2 := Lib.hid h2
  have hna := h1.len
  have hnb := h2.len
  clear h1 h2 hb1 hb2
  by_cases hz : val l = 0
  · have e : na = 0 := by rw [hna, hz, digs_zero]; rfl
    have HG := Lib.hid (show digs (Nat.gcd (val l) (val l')) = digs (val l') by rw [hz, Nat.gcd_zero_left])
    subst e
    clear hna hnb hz
    go_wp2_with fail
    go_ret
    exact ⟨_, _, _, rfl, by rw [HG.out]; exact H2.out.toWd, HB.out⟩
  · have hz2 : val l' = 0 := H0.out.resolve_left hz
    have e : nb = 0 := by rw [hnb, hz2, digs_zero]; rfl
    have hp : 0 < na := by
      rw [hna]; rcases Nat.eq_zero_or_pos (digs (val l)).length with h | h
      · exact absurd (digs_eq_nil.1 (List.eq_nil_of_length_eq_zero h)) hz
      · exact h
    have e1 : ((na : Int) == 0) = false := by simp; omega
    have HG := Lib.hid (show digs (Nat.gcd (val l) (val l')) = digs (val l) by rw [hz2, Nat.gcd_zero_right])
    subst e
    clear hna hnb hz hz2
    go_wp2_with fail
    go_ret
    exact ⟨_, _, _, rfl, by rw [HG.out]; exact H1.out.toWd, HB.out⟩
theorem r_gcd_any (w : World) (A : Option Addr) (n c : Nat) (l : List Nat) (wa : Wd w A n c l) (hn : n ≤ 1099511627000) (A' : Option Addr) (n' c' : Nat) (l' : List Nat) (wb : Wd w A' n' c' l') (hn' : n' ≤ 1099511627000) :
    Calls Tryz.prog 131 #[.slice A n c, .slice A' n' c'] w (RetL w (digs (Nat.gcd (val l) (val l')))) := by
  by_cases h : val l = 0
  · exact r_gcd_z w A n c l wa hn A' n' c' l' wb hn' (.inl h)
  · by_cases h' : val l' = 0
    · exact r_gcd_z w A n c l wa hn A' n' c' l' wb hn' (.inr h')
    · exact r_gcd_c w 1099511627000 (Nat.le_refl _) A n c l wa hn A' n' c' l' wb hn' h h'
end Go.Proofs.YtpnnfbodphflpaaGreatDoor

/- Walks: the reference's Neg, Add, Of. -/
namespace Go.Proofs.YtpnnfbodphflpaaGreatDoor
open Go Go.RowKit Bn
attribute [local go_sem ↓] Go.wp_at_zero Go.wp_at_succ
theorem r_form_e (w : World) (b : Bool) (A : Option Addr) (n c : Nat) (l : List Nat) (z : Int) (h : Wd w A n c l) (hn : n ≤ 1099511627776) (hz : sgn b (val l) = z) :
    Calls Tryz.prog 65 #[.bool b, .slice A n c] w (RetW w (wh z)) := by subst hz; exact r_form_c w b A n c l h hn
theorem r_compare_x (w : World) (A : Option Addr) (n c : Nat) (l : List Nat) (wa : Wd w A n c l) (hn : n ≤ 1099511627776) (A' : Option Addr) (n' c' : Nat) (l' : List Nat) (wb : Wd w A' n' c' l') (hn' : n' ≤ 1099511627776) (_ : Canon l) (_ : Canon l') :
    Calls Tryz.prog 133 #[.slice A n c, .slice A' n' c'] w (RetV w (.int .i64 (cmpN (val l) (val l')))) := r_compare_c w A n c l wa hn A' n' c' l' wb hn'
set_option maxHeartbeats 2000000 in
/-- integer.Neg -/
theorem r_neg_C (w : World) (b : Bool) (A : Option Addr) (n c : Nat) (l : List Nat) (wa : Wd w A n c l) (hn : n ≤ 1099511627000) :
    Calls Tryz.prog 99 #[.agg #[.bool b, .slice A n c]] w (RetW w (wh (-WD.z ⟨b, l⟩))) := by
  have HL := Lib.hid wa.2.1
  go_enter Tryz.func99, Tryz.ntmps99
  go_wp2_with fail
  have b0 : Below w.heap.size w ((w.alloc (.cells #[.bool b, .slice A n c] 48)).alloc (.cells #[.bool false, .slice none 0 0] 48)) := (((Below.refl _ _).alloc (Nat.le_refl _) _).alloc (by simp) _)
  generalize hW0 : ((w.alloc (.cells #[.bool b, .slice A n c] 48)).alloc (.cells #[.bool false, .slice none 0 0] 48)) = W0 at b0 ⊢
  have c00 : W0.cell? ⟨w.heap.size, 0, none⟩ = some (.bool b) := by subst hW0; simp [go_sem]
  have f00 : W0.frozen? ⟨w.heap.size, 0, none⟩ = false := by subst hW0; simp [go_sem]
  have c01 : W0.cell? ⟨w.heap.size, 1, none⟩ = some (.slice A n c) := by subst hW0; simp [go_sem]
  have f01 : W0.frozen? ⟨w.heap.size, 1, none⟩ = false := by subst hW0; simp [go_sem]
  have c10 : W0.cell? ⟨w.heap.size + 1, 0, none⟩ = some (.bool false) := by subst hW0; simp [go_sem]
  have f10 : W0.frozen? ⟨w.heap.size + 1, 0, none⟩ = false := by subst hW0; simp [go_sem]
  have c11 : W0.cell? ⟨w.heap.size + 1, 1, none⟩ = some (.slice none 0 0) := by subst hW0; simp [go_sem]
  have f11 : W0.frozen? ⟨w.heap.size + 1, 1, none⟩ = false := by subst hW0; simp [go_sem]
  have x0 : Box W0 (w.heap.size) 48 := by subst hW0; exact (boxAt _ _ _ (by simp)).alloc _
  have x1 : Box W0 (w.heap.size + 1) 48 := by subst hW0; exact boxAt _ _ _ (by simp)
  have hm0 : Made (w.heap.size + 1) (w.heap.size + 1 + 1) 2 W0 := by subst hW0; exact made1 (by simp)
  have hs0 : w.heap.size + 1 + 1 ≤ W0.heap.size := by subst hW0; simp
  clear hW0
  have wa := wa.belw b0
  have r0 : Below W0.heap.size W0 W0 := brefl _
  have hRB : w.heap.size + 1 ≤ w.heap.size + 1 + 1 := by omega
  go_region_held3 (fun w' => Sees (w.heap.size + 1) W0 w') (first | exact Sees.of (Nat.le_trans hRB hs0) (by assumption) | exact Sees.of (Nat.le_trans hRB hs0) (below_drewN (by assumption) _) | exact (Sees.set (Sees.of (Nat.le_trans hRB hs0) (by assumption)) (by simp)) | exact (Sees.set (Sees.set (Sees.of (Nat.le_trans hRB hs0) (by assumption)) (by simp)) (by simp)))
    (first
      | (go_at_call 74; (with_reducible refine (r_neg_c _ b A n c l ?_ ?_).mono ?_); (exact wa); (omega); rintro e w1 ⟨rfl, hb1⟩; replace hb1 := bnext (below_drewN (brefl _) 1) hb1; have r1 := bnext r0 hb1; replace wa := wa.belw hb1)
      | (go_at_call 72; (with_reducible refine (r_mag_c _ b A n c l ?_ ?_).mono ?_); (exact wa); (omega); rintro e w2 ⟨A1, n1, c1, rfl, h1, hb2⟩; have r2 := bnext r1 hb2; replace wa := wa.belw hb2)
      | (go_at_call 65; (with_reducible refine (r_form_e _ (!WD.s ⟨b, l⟩) A1 n1 c1 (WD.m ⟨b, l⟩) (-WD.z ⟨b, l⟩) ?_ ?_ ?_).mono ?_); (exact h1); (exact Nat.le_trans (h1.m_len (by rw [← HL.out]; exact hn)) (by decide)); (exact (z_neg _).symm); rintro e w3 ⟨A2, n2, c2, rfl, h2, hb3⟩; have r3 := bnext r2 hb3; replace wa := wa.belw hb3; replace h1 := h1.belw hb3; obtain ⟨⟨sc, sf⟩, sr, sz⟩ := Seen.of (by omega) hs0 hm0 r3))
  clear hRB
  go_wp2_with fail
  refine bodyPost_ret (v := .agg #[.bool _, .slice A2 n2 c2]) (by simp [results, Tryz.results99, go_sem, sr]; rfl) rfl ?_
  have x := x1.below r3
  refine retW ?_ ?_ ?_
  · rfl
  · exact h2.keep (kp2 x (by decide) _ _ _ _)
  · exact ((b0.trans (r3.mono b0.size)).setCell (by dsimp only; omega) _).setCell (by dsimp only; omega) _
set_option maxHeartbeats 2000000 in
/-- integer.Add -/
theorem r_add_c (w : World) (b : Bool) (A : Option Addr) (n c : Nat) (l : List Nat) (wa : Wd w A n c l) (hn : n ≤ 1099511627000) (b' : Bool) (A' : Option Addr) (n' c' : Nat) (l' : List Nat) (wb : Wd w A' n' c' l') (hn' : n' ≤ 1099511627000) :
    Calls Tryz.prog 98 #[.agg #[.bool b, .slice A n c], .agg #[.bool b', .slice A' n' c']] w (RetW w (wh (WD.z ⟨b, l⟩ + WD.z ⟨b', l'⟩))) := by
  have HL := Lib.hid wa.2.1
  have HL' := Lib.hid wb.2.1
  go_enter Tryz.func98, Tryz.ntmps98
  go_wp2_with fail
  have b0 : Below w.heap.size w (((w.alloc (.cells #[.bool b, .slice A n c] 48)).alloc (.cells #[.bool b', .slice A' n' c'] 48)).alloc (.cells #[.bool false, .slice none 0 0] 48)) := ((((Below.refl _ _).alloc (Nat.le_refl _) _).alloc (by simp) _).alloc (by simp; omega) _)
  generalize hW0 : (((w.alloc (.cells #[.bool b, .slice A n c] 48)).alloc (.cells #[.bool b', .slice A' n' c'] 48)).alloc (.cells #[.bool false, .slice none 0 0] 48)) = W0 at b0 ⊢
  have c00 : W0.cell? ⟨w.heap.size, 0, none⟩ = some (.bool b) := by subst hW0; simp [go_sem]
  have f00 : W0.frozen? ⟨w.heap.size, 0, none⟩ = false := by subst hW0; simp [go_sem]
  have c01 : W0.cell? ⟨w.heap.size, 1, none⟩ = some (.slice A n c) := by subst hW0; simp [go_sem]
  have f01 : W0.frozen? ⟨w.heap.size, 1, none⟩ = false := by subst hW0; simp [go_sem]
  have c10 : W0.cell? ⟨w.heap.size + 1, 0, none⟩ = some (.bool b') := by subst hW0; simp [go_sem]
  have f10 : W0.frozen? ⟨w.heap.size + 1, 0, none⟩ = false := by subst hW0; simp [go_sem]
  have c11 : W0.cell? ⟨w.heap.size + 1, 1, none⟩ = some (.slice A' n' c') := by subst hW0; simp [go_sem]
  have f11 : W0.frozen? ⟨w.heap.size + 1, 1, none⟩ = false := by subst hW0; simp [go_sem]
  have c20 : W0.cell? ⟨w.heap.size + 1 + 1, 0, none⟩ = some (.bool false) := by subst hW0; simp [go_sem]
  have f20 : W0.frozen? ⟨w.heap.size + 1 + 1, 0, none⟩ = false := by subst hW0; simp [go_sem]
  have c21 : W0.cell? ⟨w.heap.size + 1 + 1, 1, none⟩ = some (.slice none 0 0) := by subst hW0; simp [go_sem]
  have f21 : W0.frozen? ⟨w.heap.size + 1 + 1, 1, none⟩ = false := by subst hW0; simp [go_sem]
  have x0 : Box W0 (w.heap.size) 48 := by subst hW0; exact ((boxAt _ _ _ (by simp)).alloc _).alloc _
  have x1 : Box W0 (w.heap.size + 1) 48 := by subst hW0; exact (boxAt _ _ _ (by simp)).alloc _
  have x2 : Box W0 (w.heap.size + 1 + 1) 48 := by subst hW0; exact boxAt _ _ _ (by simp)
  have hm0 : Made (w.heap.size + 1 + 1) (w.heap.size + 1 + 1 + 1) 2 W0 := by subst hW0; exact made1 (by simp)
  have hs0 : w.heap.size + 1 + 1 + 1 ≤ W0.heap.size := by subst hW0; simp
  clear hW0
  have wa := wa.belw b0
  have wb := wb.belw b0
  have r0 : Below W0.heap.size W0 W0 := brefl _
  go_region_held3 (fun w' => Seen (w.heap.size + 1 + 1) (w.heap.size + 1 + 1 + 1) 2 W0 w') (first | exact Seen.of (by omega) hs0 hm0 (by assumption) | exact Seen.of (by omega) hs0 hm0 (below_drewN (by assumption) _))
    (first
      | (go_at_call 72; (with_reducible refine (r_mag_c _ b A n c l ?_ ?_).mono ?_); (exact wa); (omega); rintro e w1 ⟨A1, n1, c1, rfl, h1, hb1⟩; replace hb1 := bnext (below_drewN (brefl _) 1) hb1; have r1 := bnext r0 hb1; replace wa := wa.belw hb1; replace wb := wb.belw hb1)
      | (go_at_call 72; (with_reducible refine (r_mag_c _ b' A' n' c' l' ?_ ?_).mono ?_); (exact wb); (omega); rintro e w2 ⟨A2, n2, c2, rfl, h2, hb2⟩; have r2 := bnext r1 hb2; replace wa := wa.belw hb2; replace wb := wb.belw hb2; replace h1 := h1.belw hb2))
  obtain ⟨⟨sc, sf⟩, sr, sz⟩ := Seen.of (by omega) hs0 hm0 r2
  clear sc sf sr sz
  go_wp2_with fail
  go_region_held3 (fun w' => Seen (w.heap.size + 1 + 1) (w.heap.size + 1 + 1 + 1) 2 W0 w') (first | exact Seen.of (by omega) hs0 hm0 (by assumption) | exact Seen.of (by omega) hs0 hm0 (below_drewN (by assumption) _))
    (first
      | (go_at_call 74; (with_reducible refine (r_neg_c _ b A n c l ?_ ?_).mono ?_); (exact wa); (omega); rintro e w3 ⟨rfl, hb3⟩; replace hb3 := bnext (below_drewN (brefl _) 1) hb3; have r3 := bnext r2 hb3; replace wa := wa.belw hb3; replace wb := wb.belw hb3; replace h1 := h1.belw hb3; replace h2 := h2.belw hb3)
      | (go_at_call 74; (with_reducible refine (r_neg_c _ b' A' n' c' l' ?_ ?_).mono ?_); (exact wb); (omega); rintro e w4 ⟨rfl, hb4⟩; have r4 := bnext r3 hb4; replace wa := wa.belw hb4; replace wb := wb.belw hb4; replace h1 := h1.belw hb4; replace h2 := h2.belw hb4))
  obtain ⟨⟨sc, sf⟩, sr, sz⟩ := Seen.of (by omega) hs0 hm0 r4
  have hcm1 : Canon (WD.m ⟨b, l⟩) := WD.canon_m wa.1
  have hcm2 : Canon (WD.m ⟨b', l'⟩) := WD.canon_m wb.1
  have hn1 : n1 ≤ 1099511627000 := h1.m_len (by rw [← HL.out]; exact hn)
  have hn2 : n2 ≤ 1099511627000 := h2.m_len (by rw [← HL'.out]; exact hn')
  by_cases hs : WD.s ⟨b, l⟩ = WD.s ⟨b', l'⟩
  · have hs' : (WD.s ⟨b, l⟩ == WD.s ⟨b', l'⟩) = true := by simp [hs]
    have HZ := Lib.hid (z_same hs)
    clear hs
    rw [hs']
    clear hs'
    go_wp2_with (first
      | (go_at_call 74; (with_reducible refine (r_neg_c _ b A n c l ?_ ?_).mono ?_); (exact wa); (omega); rintro e w5 ⟨rfl, hb5⟩; have r5 := bnext r4 hb5; replace wa := wa.belw hb5; replace wb := wb.belw hb5; replace h1 := h1.belw hb5; replace h2 := h2.belw hb5; (try clear sc sf sr sz); obtain ⟨⟨sc, sf⟩, sr, sz⟩ := Seen.of (by omega) hs0 hm0 r5)
      | (go_at_call 63; (with_reducible refine (r_plus_c _ A1 n1 c1 (WD.m ⟨b, l⟩) ?_ ?_ A2 n2 c2 (WD.m ⟨b', l'⟩) ?_ ?_).mono ?_); (exact h1); (omega); (exact h2); (omega); rintro e w6 ⟨A3, n3, c3, rfl, h3, hb6⟩; have r6 := bnext r5 hb6; replace wa := wa.belw hb6; replace wb := wb.belw hb6; replace h1 := h1.belw hb6; replace h2 := h2.belw hb6; (try clear sc sf sr sz); obtain ⟨⟨sc, sf⟩, sr, sz⟩ := Seen.of (by omega) hs0 hm0 r6)
      | (go_at_call 65; (with_reducible refine (r_form_c _ (WD.s ⟨b, l⟩) A3 n3 c3 (digs (val (WD.m ⟨b, l⟩) + val (WD.m ⟨b', l'⟩))) ?_ ?_).mono ?_); (exact h3); (rw [h3.2.1]; exact plus_len h1 h2 hn1 hn2 (by decide)); rintro e w7 ⟨A4, n4, c4, rfl, h4, hb7⟩; have r7 := bnext r6 hb7; replace wa := wa.belw hb7; replace wb := wb.belw hb7; replace h1 := h1.belw hb7; replace h2 := h2.belw hb7; replace h3 := h3.belw hb7; (try clear sc sf sr sz); obtain ⟨⟨sc, sf⟩, sr, sz⟩ := Seen.of (by omega) hs0 hm0 r7))
    rw [val_digs, ← HZ.out] at h4
    refine bodyPost_ret (v := .agg #[.bool _, .slice A4 n4 c4]) (by simp [results, Tryz.results98, go_sem, sr]; rfl) rfl ?_
    have x := x2.below r7
    refine retW ?_ ?_ ?_
    · rw [HZ.out, val_digs]
    · exact h4.keep (kp2 x (by decide) _ _ _ _)
    · exact ((b0.trans (r7.mono b0.size)).setCell (by dsimp only; omega) _).setCell (by dsimp only; omega) _
  · have hs' : (WD.s ⟨b, l⟩ == WD.s ⟨b', l'⟩) = false := by simp [hs]
    rw [hs']
    clear hs'
    by_cases hv : val (WD.m ⟨b', l'⟩) ≤ val (WD.m ⟨b, l⟩)
    · have hd : decide ((0 : Int) ≤ cmpN (val (WD.m ⟨b, l⟩)) (val (WD.m ⟨b', l'⟩))) = true := by simp [cmpN_le, hv]
      have HZ := Lib.hid (z_more (a := ⟨b, l⟩) (b := ⟨b', l'⟩) hs hv)
      have HV := Lib.hid hv
      clear hs hv
      have hlen : n2 ≤ n1 := len_le h2 h1 hcm2 hcm1 (HV.out)
      go_wp2_with (first
        | (go_at_call 133; (with_reducible refine (r_compare_x _ A1 n1 c1 (WD.m ⟨b, l⟩) ?_ ?_ A2 n2 c2 (WD.m ⟨b', l'⟩) ?_ ?_ hcm1 hcm2).mono ?_); (exact h1); (omega); (exact h2); (omega); rintro e w5 ⟨rfl, hb5⟩; have r5 := bnext r4 hb5; replace wa := wa.belw hb5; replace wb := wb.belw hb5; replace h1 := h1.belw hb5; replace h2 := h2.belw hb5; (try clear sc sf sr sz); obtain ⟨⟨sc, sf⟩, sr, sz⟩ := Seen.of (by omega) hs0 hm0 r5)
        | (go_at_call 74; (with_reducible refine (r_neg_c _ b A n c l ?_ ?_).mono ?_); (exact wa); (omega); rintro e w6 ⟨rfl, hb6⟩; have r6 := bnext r5 hb6; replace wa := wa.belw hb6; replace wb := wb.belw hb6; replace h1 := h1.belw hb6; replace h2 := h2.belw hb6; (try clear sc sf sr sz); obtain ⟨⟨sc, sf⟩, sr, sz⟩ := Seen.of (by omega) hs0 hm0 r6)
        | (go_at_call 134; (with_reducible refine (r_minus_c _ A1 n1 c1 (WD.m ⟨b, l⟩) ?_ ?_ A2 n2 c2 (WD.m ⟨b', l'⟩) ?_ ?_ ?_).mono ?_); (exact h1); (omega); (exact h2); (exact hlen); (exact HV.out); rintro e w7 ⟨A3, n3, c3, rfl, h3, hb7⟩; have r7 := bnext r6 hb7; replace wa := wa.belw hb7; replace wb := wb.belw hb7; replace h1 := h1.belw hb7; replace h2 := h2.belw hb7; (try clear sc sf sr sz); obtain ⟨⟨sc, sf⟩, sr, sz⟩ := Seen.of (by omega) hs0 hm0 r7)
        | (go_at_call 65; (with_reducible refine (r_form_c _ (WD.s ⟨b, l⟩) A3 n3 c3 (digs (val (WD.m ⟨b, l⟩) - val (WD.m ⟨b', l'⟩))) ?_ ?_).mono ?_); (exact h3); (rw [h3.2.1]; exact dlen (Nat.lt_of_le_of_lt (Nat.sub_le _ _) (h1.vlt hn1)) (by decide)); rintro e w8 ⟨A4, n4, c4, rfl, h4, hb8⟩; have r8 := bnext r7 hb8; replace wa := wa.belw hb8; replace wb := wb.belw hb8; replace h1 := h1.belw hb8; replace h2 := h2.belw hb8; replace h3 := h3.belw hb8; (try clear sc sf sr sz); obtain ⟨⟨sc, sf⟩, sr, sz⟩ := Seen.of (by omega) hs0 hm0 r8))
      rw [val_digs, ← HZ.out] at h4
      refine bodyPost_ret (v := .agg #[.bool _, .slice A4 n4 c4]) (by simp [results, Tryz.results98, go_sem, sr]; rfl) rfl ?_
      have x := x2.below r8
      refine retW ?_ ?_ ?_
      · rw [HZ.out, val_digs]
      · exact h4.keep (kp2 x (by decide) _ _ _ _)
      · exact ((b0.trans (r8.mono b0.size)).setCell (by dsimp only; omega) _).setCell (by dsimp only; omega) _
    · have hd : decide ((0 : Int) ≤ cmpN (val (WD.m ⟨b, l⟩)) (val (WD.m ⟨b', l'⟩))) = false := by simp [cmpN_le]; omega
      have HZ := Lib.hid (z_less (a := ⟨b, l⟩) (b := ⟨b', l'⟩) hs (by omega))
      have HV := Lib.hid hv
      clear hs hv
      have hlen : n1 ≤ n2 := len_le h1 h2 hcm1 hcm2 (Nat.le_of_not_le HV.out)
      go_wp2_with (first
        | (go_at_call 133; (with_reducible refine (r_compare_x _ A1 n1 c1 (WD.m ⟨b, l⟩) ?_ ?_ A2 n2 c2 (WD.m ⟨b', l'⟩) ?_ ?_ hcm1 hcm2).mono ?_); (exact h1); (omega); (exact h2); (omega); rintro e w5 ⟨rfl, hb5⟩; have r5 := bnext r4 hb5; replace wa := wa.belw hb5; replace wb := wb.belw hb5; replace h1 := h1.belw hb5; replace h2 := h2.belw hb5; (try clear sc sf sr sz); obtain ⟨⟨sc, sf⟩, sr, sz⟩ := Seen.of (by omega) hs0 hm0 r5)
        | (go_at_call 74; (with_reducible refine (r_neg_c _ b' A' n' c' l' ?_ ?_).mono ?_); (exact wb); (omega); rintro e w6 ⟨rfl, hb6⟩; have r6 := bnext r5 hb6; replace wa := wa.belw hb6; replace wb := wb.belw hb6; replace h1 := h1.belw hb6; replace h2 := h2.belw hb6; (try clear sc sf sr sz); obtain ⟨⟨sc, sf⟩, sr, sz⟩ := Seen.of (by omega) hs0 hm0 r6)
        | (go_at_call 134; (with_reducible refine (r_minus_c _ A2 n2 c2 (WD.m ⟨b', l'⟩) ?_ ?_ A1 n1 c1 (WD.m ⟨b, l⟩) ?_ ?_ ?_).mono ?_); (exact h2); (omega); (exact h1); (exact hlen); (exact Nat.le_of_not_le HV.out); rintro e w7 ⟨A3, n3, c3, rfl, h3, hb7⟩; have r7 := bnext r6 hb7; replace wa := wa.belw hb7; replace wb := wb.belw hb7; replace h1 := h1.belw hb7; replace h2 := h2.belw hb7; (try clear sc sf sr sz); obtain ⟨⟨sc, sf⟩, sr, sz⟩ := Seen.of (by omega) hs0 hm0 r7)
        | (go_at_call 65; (with_reducible refine (r_form_c _ (WD.s ⟨b', l'⟩) A3 n3 c3 (digs (val (WD.m ⟨b', l'⟩) - val (WD.m ⟨b, l⟩))) ?_ ?_).mono ?_); (exact h3); (rw [h3.2.1]; exact dlen (Nat.lt_of_le_of_lt (Nat.sub_le _ _) (h2.vlt hn2)) (by decide)); rintro e w8 ⟨A4, n4, c4, rfl, h4, hb8⟩; have r8 := bnext r7 hb8; replace wa := wa.belw hb8; replace wb := wb.belw hb8; replace h1 := h1.belw hb8; replace h2 := h2.belw hb8; replace h3 := h3.belw hb8; (try clear sc sf sr sz); obtain ⟨⟨sc, sf⟩, sr, sz⟩ := Seen.of (by omega) hs0 hm0 r8))
      rw [val_digs, ← HZ.out] at h4
      refine bodyPost_ret (v := .agg #[.bool _, .slice A4 n4 c4]) (by simp [results, Tryz.results98, go_sem, sr]; rfl) rfl ?_
      have x := x2.below r8
      refine retW ?_ ?_ ?_
      · rw [HZ.out, val_digs]
      · exact h4.keep (kp2 x (by decide) _ _ _ _)
      · exact ((b0.trans (r8.mono b0.size)).setCell (by dsimp only; omega) _).setCell (by dsimp only; omega) _
set_option maxHeartbeats 1000000 in
/-- integer.Of -/
theorem r_of_c (w : World) (i : Int) (h0 : -9223372036854775808 ≤ i) (h1 : i < 9223372036854775808) :
    Calls Tryz.prog 52 #[.int .i64 i] w (RetW w (wh i)) := by
  obtain ⟨v, hv⟩ : ∃ v : Nat, v = i.natAbs := ⟨_, rfl⟩
  have hv2 : v < 18446744073709551616 := by omega
  have hval : val [v % 4294967296, v / 4294967296] = v := by simp [val]; omega
  have HV := Lib.hid hval
  by_cases hneg : i < 0
  · have e1 : IntKind.u64.wrap i = i + 18446744073709551616 := by unfold IntKind.wrap; simp [IntKind.bits, IntKind.signed]; omega
    have e2 : IntKind.u64.wrap (-(i + 18446744073709551616)) = (v : Int) := by unfold IntKind.wrap; simp [IntKind.bits, IntKind.signed]; omega
    have e3 : decide (i < 0) = true := by simp; omega
    have e4 : IntKind.u32.wrap (v : Int) = ((v % 4294967296 : Nat) : Int) := by unfold IntKind.wrap; simp [IntKind.bits, IntKind.signed]
    have e5 : IntKind.u32.wrap ((v : Int) / 4294967296) = ((v / 4294967296 : Nat) : Int) := by unfold IntKind.wrap; simp [IntKind.bits, IntKind.signed]; omega
    have HZ := Lib.hid (show sgn true v = i by simp [sgn]; omega)
    have HV2 := Lib.hid hv2
    clear hv hval hv2 hneg h0 h1
    go_enter Tryz.func52, Tryz.ntmps52
    go_wp2_with (go_at_call 65; (with_reducible refine (r_form_e _ true (some ⟨w.heap.size + 1, 0, none⟩) 2 2 [v % 4294967296, v / 4294967296] i ?_ ?_ ?_).mono ?_); (exact two_word (w.alloc _) _ (by simp) _ _ v (by simp) (by simp) HV2.out); (omega); (rw [HV.out]; exact HZ.out); rintro e w1 ⟨A1, n1, c1, rfl, h1, hb⟩; obtain ⟨hc, hf⟩ := bcell hb)
    have hc0 : w1.cell? ⟨w.heap.size, 0, none⟩ = some (.bool false) := (hc w.heap.size 0 (by simp; omega)).trans (by simp [go_sem])
    have hc1 : w1.cell? ⟨w.heap.size, 1, none⟩ = some (.slice none 0 0) := (hc w.heap.size 1 (by simp; omega)).trans (by simp [go_sem])
    refine bodyPost_ret (v := .agg #[.bool _, .slice A1 n1 c1]) (by simp [results, Tryz.results52, go_sem, hc0, hc1]; rfl) rfl ?_
    have x := ((boxAt w #[.bool false, .slice none 0 0] 48 rfl).alloc _).below hb
    refine retW ?_ ?_ ?_
    · rfl
    · exact h1.keep (kp2 x (by decide) _ _ _ _)
    · exact ((((((Below.refl _ _).alloc (Nat.le_refl _) _).alloc (by simp) _).trans (hb.mono (by simp; omega)))).setCell (by dsimp only; omega) _).setCell (by dsimp only; omega) _
  · have e1 : IntKind.u64.wrap i = (v : Int) := by unfold IntKind.wrap; simp [IntKind.bits, IntKind.signed]; omega
    have e3 : decide (i < 0) = false := by simp; omega
    have e4 : IntKind.u32.wrap (v : Int) = ((v % 4294967296 : Nat) : Int) := by unfold IntKind.wrap; simp [IntKind.bits, IntKind.signed]
    have e5 : IntKind.u32.wrap ((v : Int) / 4294967296) = ((v / 4294967296 : Nat) : Int) := by unfold IntKind.wrap; simp [IntKind.bits, IntKind.signed]; omega
    have HZ := Lib.hid (show sgn false v = i by simp [sgn]; omega)
    have HV2 := Lib.hid hv2
    clear hv hval hv2 hneg h0 h1
    go_enter Tryz.func52, Tryz.ntmps52
    go_wp2_with (go_at_call 65; (with_reducible refine (r_form_e _ false (some ⟨w.heap.size + 1, 0, none⟩) 2 2 [v % 4294967296, v / 4294967296] i ?_ ?_ ?_).mono ?_); (exact two_word (w.alloc _) _ (by simp) _ _ v (by simp) (by simp) HV2.out); (omega); (rw [HV.out]; exact HZ.out); rintro e w1 ⟨A1, n1, c1, rfl, h1, hb⟩; obtain ⟨hc, hf⟩ := bcell hb)
    have hc0 : w1.cell? ⟨w.heap.size, 0, none⟩ = some (.bool false) := (hc w.heap.size 0 (by simp; omega)).trans (by simp [go_sem])
    have hc1 : w1.cell? ⟨w.heap.size, 1, none⟩ = some (.slice none 0 0) := (hc w.heap.size 1 (by simp; omega)).trans (by simp [go_sem])
    refine bodyPost_ret (v := .agg #[.bool _, .slice A1 n1 c1]) (by simp [results, Tryz.results52, go_sem, hc0, hc1]; rfl) rfl ?_
    have x := ((boxAt w #[.bool false, .slice none 0 0] 48 rfl).alloc _).below hb
    refine retW ?_ ?_ ?_
    · rfl
    · exact h1.keep (kp2 x (by decide) _ _ _ _)
    · exact ((((((Below.refl _ _).alloc (Nat.le_refl _) _).alloc (by simp) _).trans (hb.mono (by simp; omega)))).setCell (by dsimp only; omega) _).setCell (by dsimp only; omega) _
end Go.Proofs.YtpnnfbodphflpaaGreatDoor
