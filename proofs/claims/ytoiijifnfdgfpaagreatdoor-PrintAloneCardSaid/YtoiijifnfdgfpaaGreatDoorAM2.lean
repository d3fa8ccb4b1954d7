/- Part AM2: lemmas and walks that the claim rests on. No claim is made here. -/
import Derived.Deep.DeepCutAuto
import Derived.Deep.RegionHeld3
import Derived.Deep.DrawnRows
import Derived.Test.YtoiijifnfdgfpaaGreatDoorProg
import Derived.WalkKit
import Derived.WalkSpells
import Derived.WalkLawsBesides
import Derived.BigQuiet
import Derived.Deep.QuietTactic
import Derived.Deep.AppendLies
import Derived.Lib.Hide
import Derived.Laws.OwnMore
import Derived.Deep.RegionHeld
import Derived.Lib.ItoaNum
import Derived.Lib.ItoaMem
import Derived.Lib.Repeat
import Derived.Lib.Join
import Derived.Test.YtoiijifnfdgfpaaGreatDoorAM1
set_option linter.unusedVariables false
set_option maxHeartbeats 8000000
set_option maxRecDepth 100000
/- Integers and fractions as values: what the walks of the layers above lean on. -/
namespace Go.Proofs.YtoiijifnfdgfpaaGreatDoor
open Go Go.RowKit Bn
attribute [local go_sem ↓] Go.wp_at_zero Go.wp_at_succ

def IZ (w : World) (b : Bool) (A : Option Addr) (n c : Nat) (z : Int) (k : Nat) : Prop := ∃ l, Wd w A n c l ∧ WD.z ⟨b, l⟩ = z ∧ n ≤ k
def IV (w : World) (b : Bool) (A : Option Addr) (n c : Nat) (z : Int) (k : Nat) : Prop := b = (wh z).neg ∧ Wd w A n c (wh z).mag ∧ n ≤ k
def QD (w : World) (b : Bool) (A : Option Addr) (n c : Nat) (A' : Option Addr) (n' c' : Nat) (a : RD) (k : Nat) : Prop := a.neg = b ∧ Wd w A n c a.num ∧ Wd w A' n' c' a.den ∧ n ≤ k ∧ n' ≤ k
def QZ (w : World) (b : Bool) (A : Option Addr) (n c : Nat) (A' : Option Addr) (n' c' : Nat) (q : Rat) (k : Nat) : Prop := ∃ a, QD w b A n c A' n' c' a k ∧ a.q = q
def QV (w : World) (b : Bool) (A : Option Addr) (n c : Nat) (A' : Option Addr) (n' c' : Nat) (q : Rat) (k : Nat) : Prop := QD w b A n c A' n' c' (rd q) k
section
variable {w w' : World} {b : Bool} {A A' : Option Addr} {n c n' c' k j : Nat} {z : Int} {q : Rat} {a : RD}
theorem IV.iz (h : IV w b A n c z k) : IZ w b A n c z k := by
  obtain ⟨rfl, h1, h2⟩ := h
  exact ⟨_, h1, wh_z z, h2⟩
theorem IZ.belw (h : IZ w b A n c z k) (hb : Below w.heap.size w w') : IZ w' b A n c z k := by
  obtain ⟨l, h1, h2, h3⟩ := h; exact ⟨l, h1.belw hb, h2, h3⟩
theorem IV.belw (h : IV w b A n c z k) (hb : Below w.heap.size w w') : IV w' b A n c z k := ⟨h.1, h.2.1.belw hb, h.2.2⟩
theorem IZ.keep (h : IZ w b A n c z k) (hb : Kp w w') : IZ w' b A n c z k := by
  obtain ⟨l, h1, h2, h3⟩ := h; exact ⟨l, h1.keep hb, h2, h3⟩
theorem IV.keep (h : IV w b A n c z k) (hb : Kp w w') : IV w' b A n c z k := ⟨h.1, h.2.1.keep hb, h.2.2⟩
theorem IZ.mono (h : IZ w b A n c z k) (hk : k ≤ j) : IZ w b A n c z j := by
  obtain ⟨l, h1, h2, h3⟩ := h; exact ⟨l, h1, h2, Nat.le_trans h3 hk⟩
theorem IV.mono (h : IV w b A n c z k) (hk : k ≤ j) : IV w b A n c z j := ⟨h.1, h.2.1, Nat.le_trans h.2.2 hk⟩
theorem QD.belw (h : QD w b A n c A' n' c' a k) (hb : Below w.heap.size w w') : QD w' b A n c A' n' c' a k := ⟨h.1, h.2.1.belw hb, h.2.2.1.belw hb, h.2.2.2⟩
theorem QD.keep (h : QD w b A n c A' n' c' a k) (hb : Kp w w') : QD w' b A n c A' n' c' a k := ⟨h.1, h.2.1.keep hb, h.2.2.1.keep hb, h.2.2.2⟩
theorem QD.mono (h : QD w b A n c A' n' c' a k) (hk : k ≤ j) : QD w b A n c A' n' c' a j := ⟨h.1, h.2.1, h.2.2.1, Nat.le_trans h.2.2.2.1 hk, Nat.le_trans h.2.2.2.2 hk⟩
theorem QD.qz (h : QD w b A n c A' n' c' a k) : QZ w b A n c A' n' c' a.q k := ⟨a, h, rfl⟩
theorem QZ.belw (h : QZ w b A n c A' n' c' q k) (hb : Below w.heap.size w w') : QZ w' b A n c A' n' c' q k := by
  obtain ⟨a, h1, h2⟩ := h; exact ⟨a, h1.belw hb, h2⟩
theorem QZ.keep (h : QZ w b A n c A' n' c' q k) (hb : Kp w w') : QZ w' b A n c A' n' c' q k := by
  obtain ⟨a, h1, h2⟩ := h; exact ⟨a, h1.keep hb, h2⟩
theorem QZ.mono (h : QZ w b A n c A' n' c' q k) (hk : k ≤ j) : QZ w b A n c A' n' c' q j := by
  obtain ⟨a, h1, h2⟩ := h; exact ⟨a, h1.mono hk, h2⟩
theorem QV.qz (h : QV w b A n c A' n' c' q k) : QZ w b A n c A' n' c' q k := ⟨_, h, rd_q q⟩
theorem QV.belw (h : QV w b A n c A' n' c' q k) (hb : Below w.heap.size w w') : QV w' b A n c A' n' c' q k := QD.belw h hb
theorem QV.keep (h : QV w b A n c A' n' c' q k) (hb : Kp w w') : QV w' b A n c A' n' c' q k := QD.keep h hb
theorem QV.mono (h : QV w b A n c A' n' c' q k) (hk : k ≤ j) : QV w b A n c A' n' c' q j := QD.mono h hk
theorem WD.z_lt {l : List Nat} (h : Wd w A n c l) (hk : n ≤ k) : (WD.z ⟨b, l⟩).natAbs < 4294967296 ^ k := by
  have h1 := h.vlt hk
  have h2 := pow_pos' k
  unfold WD.z
  split
  · simp only; split <;> omega
  · simpa using h2
theorem IZ.lt (h : IZ w b A n c z k) : z.natAbs < 4294967296 ^ k := by
  obtain ⟨l, h1, rfl, h3⟩ := h; exact WD.z_lt h1 h3
theorem QD.sz (h : QD w b A n c A' n' c' a k) (hk : 0 < k) : Sz a.q k := by
  have e1 := RD.q_num h.2.1.1 h.2.2.1.1
  have e2 := RD.q_den h.2.1.1 h.2.2.1.1
  have h1 := h.2.1.vlt h.2.2.2.1
  have h2 := h.2.2.1.vlt h.2.2.2.2
  have h3 : 1 < 4294967296 ^ k := Nat.one_lt_pow (by omega) (by omega)
  unfold Sz
  rw [e1, e2]
  refine ⟨?_, ?_⟩
  · unfold RD.n
    split
    · split <;> omega
    · simp; omega
  · unfold RD.d; split <;> omega
theorem QZ.sz (h : QZ w b A n c A' n' c' q k) (hk : 0 < k) : Sz q k := by
  obtain ⟨a, h1, rfl⟩ := h; exact h1.sz hk
theorem QV.mk_ (h1 : Wd w A n c (rd q).num) (h2 : Wd w A' n' c' (rd q).den) (hb : (rd q).neg = b) (hs : Sz q k) : QV w b A n c A' n' c' q k := by
  refine ⟨hb, h1, h2, ?_, ?_⟩
  · rw [h1.2.1]; exact length_digs_le hs.1
  · rw [h2.2.1]; unfold rd; simp only; split
    · simp
    · exact length_digs_le hs.2
theorem IV.mk_ (h : Wd w A n c (wh z).mag) (hb : b = (wh z).neg) (hs : z.natAbs < 4294967296 ^ k) : IV w b A n c z k :=
  ⟨hb, h, by rw [h.2.1]; exact length_digs_le hs⟩
end
def RetI (w : World) (z : Int) (k : Nat) (e : Ending) (w' : World) : Prop := ∃ b A n c, e = .returned (.agg #[.bool b, .slice A n c]) ∧ IV w' b A n c z k ∧ Below w.heap.size w w'
def RetF (w : World) (q : Rat) (k : Nat) (e : Ending) (w' : World) : Prop := ∃ b A n c A' n' c', e = .returned (.agg #[.bool b, .slice A n c, .slice A' n' c']) ∧ QV w' b A n c A' n' c' q k ∧ Below w.heap.size w w'
def RetII (w : World) (z z' : Int) (k : Nat) (e : Ending) (w' : World) : Prop := ∃ b A n c b' A' n' c', e = .returned (.tuple #[.agg #[.bool b, .slice A n c], .agg #[.bool b', .slice A' n' c']]) ∧ IV w' b A n c z k ∧ IV w' b' A' n' c' z' k ∧ Below w.heap.size w w'
def RetDv (w : World) (v : Value) (z z' : Int) (k : Nat) (e : Ending) (w' : World) : Prop := ∃ b A n c b' A' n' c', e = .returned (.tuple #[.agg #[.bool b, .slice A n c], .agg #[.bool b', .slice A' n' c'], v]) ∧ IV w' b A n c z k ∧ IV w' b' A' n' c' z' k ∧ Below w.heap.size w w'
def RetFe (w : World) (v : Value) (q : Rat) (k : Nat) (e : Ending) (w' : World) : Prop := ∃ b A n c A' n' c', e = .returned (.tuple #[.agg #[.bool b, .slice A n c, .slice A' n' c'], v]) ∧ QV w' b A n c A' n' c' q k ∧ Below w.heap.size w w'
theorem gcd_lt {a b K : Nat} (ha : a < K) (hb : b < K) : Nat.gcd a b < K := by
  rcases Nat.eq_zero_or_pos a with rfl | h
  · simpa using hb
  · exact Nat.lt_of_le_of_lt (Nat.gcd_le_left _ h) ha
theorem RetW.i {w w' : World} {z : Int} {k : Nat} {e : Ending} (h : RetW w (wh z) e w') (hs : z.natAbs < 4294967296 ^ k) : RetI w z k e w' := by
  obtain ⟨A, n, c, rfl, h1, h2⟩ := h
  exact ⟨_, A, n, c, rfl, IV.mk_ h1 rfl hs, h2⟩
section
variable (w : World) (b A n c z k) (h : IZ w b A n c z k) (b' A' n' c' z' k') (h' : IZ w b' A' n' c' z' k')
include h
theorem i_neg (hk : k ≤ 1000000000) : Calls Tryz.prog 130 #[.agg #[.bool b, .slice A n c]] w (RetI w (-z) k) := by
  have hz := h.lt
  obtain ⟨l, h1, rfl, h3⟩ := h
  exact (neg_C w b A n c l h1 (by omega)).mono fun _ _ r => r.i (by omega)
theorem i_sign (hk : k ≤ 1000000000) : Calls Tryz.prog 77 #[.agg #[.bool b, .slice A n c]] w (RetV w (.int .i64 z.sign)) := by
  obtain ⟨l, h1, rfl, h3⟩ := h
  exact sign_c w b A n c l h1 (by omega)
include h'
theorem i_mul (hk : k + k' ≤ 1000000000) : Calls Tryz.prog 129 #[.agg #[.bool b, .slice A n c], .agg #[.bool b', .slice A' n' c']] w (RetI w (z * z') (k + k')) := by
  have hz := h.lt
  have hz' := h'.lt
  obtain ⟨l, h1, rfl, h3⟩ := h
  obtain ⟨l', h1', rfl, h3'⟩ := h'
  exact (mul_C w b A n c l h1 (by omega) b' A' n' c' l' h1' (by omega)).mono fun _ _ r => r.i (natAbs_mul_lt hz hz')
theorem i_cmp (hk : k + k' ≤ 1000000000) : Calls Tryz.prog 71 #[.agg #[.bool b, .slice A n c], .agg #[.bool b', .slice A' n' c']] w (RetV w (.int .i64 (cmpI z z'))) := by
  obtain ⟨l, h1, rfl, h3⟩ := h
  obtain ⟨l', h1', rfl, h3'⟩ := h'
  exact cmp_c w b A n c l h1 (by omega) b' A' n' c' l' h1' (by omega)
theorem i_gcd (hk : k + k' ≤ 1000000000) : Calls Tryz.prog 72 #[.agg #[.bool b, .slice A n c], .agg #[.bool b', .slice A' n' c']] w (RetI w (Nat.gcd z.natAbs z'.natAbs : Nat) (k + k')) := by
  have hz := h.mono (Nat.le_add_right k k') |>.lt
  have hz' := h'.mono (Nat.le_add_left k' k) |>.lt
  obtain ⟨l, h1, rfl, h3⟩ := h
  obtain ⟨l', h1', rfl, h3'⟩ := h'
  exact (gcd_c w b A n c l h1 (by omega) b' A' n' c' l' h1' (by omega)).mono fun _ _ r => r.i (by simpa using gcd_lt hz hz')
theorem i_div (hk : k + k' ≤ 1000000000) (h0 : z' ≠ 0) : Calls Tryz.prog 135 #[.agg #[.bool b, .slice A n c], .agg #[.bool b', .slice A' n' c']] w (RetDv w .nilIface (z / z') (z % z') (k + k')) := by
  have hz := h.mono (Nat.le_add_right k k') |>.lt
  have hz' := h'.mono (Nat.le_add_left k' k) |>.lt
  obtain ⟨l, h1, rfl, h3⟩ := h
  obtain ⟨l', h1', rfl, h3'⟩ := h'
  refine (div_C w b A n c l h1 (by omega) b' A' n' c' l' h1' (by omega) h0).mono fun _ _ r => ?_
  obtain ⟨A1, n1, c1, A2, n2, c2, rfl, r1, r2, r3⟩ := r
  refine ⟨_, A1, n1, c1, _, A2, n2, c2, rfl, IV.mk_ r1 rfl ?_, IV.mk_ r2 rfl ?_, r3⟩
  · exact Nat.lt_of_le_of_lt (Int.natAbs_ediv_le_natAbs _ _) hz
  · have e1 := Int.emod_nonneg (WD.z ⟨b, l⟩) h0
    have e2 := Int.emod_lt (WD.z ⟨b, l⟩) h0
    omega
end
theorem i_of (w : World) (i : Int) (k : Nat) (h0 : -9223372036854775808 ≤ i) (h1 : i < 9223372036854775808) (hs : i.natAbs < 4294967296 ^ k) : Calls Tryz.prog 123 #[.int .i64 i] w (RetI w i k) :=
  (of_c w i h0 h1).mono fun _ _ r => r.i hs
theorem i_of1 (w : World) (i : Int) (h0 : -4294967296 < i) (h1 : i < 4294967296) : Calls Tryz.prog 123 #[.int .i64 i] w (RetI w i 1) := i_of w i 1 (by omega) (by omega) (by omega)
theorem IZ.zero (w : World) : IZ w false none 0 0 0 0 := ⟨[], Wd.nil_ w, by simp [WD.z, WD.ok, val], Nat.le_refl _⟩
theorem QZ.zero (w : World) : QZ w false none 0 0 none 0 0 0 1 := ⟨⟨false, [], []⟩, ⟨rfl, Wd.nil_ w, Wd.nil_ w, by omega, by omega⟩, by have := rd_q 0; rw [rd_zero] at this; exact this⟩
theorem QV.zero (w : World) (k : Nat) : QV w false none 0 0 none 0 0 0 k := by
  unfold QV; rw [rd_zero]; exact ⟨rfl, Wd.nil_ w, Wd.nil_ w, by omega, by omega⟩
theorem IV.zero (w : World) (k : Nat) : IV w false none 0 0 0 k := ⟨rfl, by have : (wh 0).mag = [] := digs_zero; rw [this]; exact Wd.nil_ w, by omega⟩
theorem blkAt (w : World) (c : Array Value) (t : TypeId) {g : Nat} (h : g = w.heap.size) : Blk (w.alloc (.cells c t)) g t c := by subst h; exact Blk.new w t c
theorem Blk.set_at {w : World} {g : Nat} {t : TypeId} {cs : Array Value} (h : Blk w g t cs) (i : Nat) (v : Value) (cs' : Array Value) (e : cs.setIfInBounds i v = cs') : Blk (w.setCell ⟨g, i, none⟩ v) g t cs' := by subst e; exact h.set_ i v
theorem Blk.box {w : World} {g : Nat} {t : TypeId} {c : Array Value} (h : Blk w g t c) (hc : noU c = true := by rfl) : Box w g t := ⟨c, _, h, hc⟩
abbrev SeesX (G g : Nat) (W0 W : World) : Prop := ((∀ b o, b < G → b ≠ g → W.cell? ⟨b, o, none⟩ = W0.cell? ⟨b, o, none⟩) ∧ (∀ b o, b < G → W.frozen? ⟨b, o, none⟩ = W0.frozen? ⟨b, o, none⟩)) ∧ G ≤ W.heap.size
theorem SeesX.of {G g : Nat} {W0 W : World} (h : G ≤ W0.heap.size) (hb : Below W0.heap.size W0 W) : SeesX G g W0 W :=
  ⟨⟨fun b o hlt _ => (bcell hb).1 b o (Nat.lt_of_lt_of_le hlt h), fun b o hlt => (bcell hb).2 b o (Nat.lt_of_lt_of_le hlt h)⟩, Nat.le_trans h hb.size⟩
theorem SeesX.set {G g : Nat} {W0 W : World} (h : SeesX G g W0 W) {i : Nat} {u : Value} : SeesX G g W0 (W.setCell ⟨g, i, none⟩ u) := by
  refine ⟨⟨fun b o hlt hne => ?_, fun b o hlt => ?_⟩, ?_⟩
  · rw [← h.1.1 b o hlt hne]; unfold World.cell?; rw [Below.heap_setCell _ _ _ b hne]
  · rw [← h.1.2 b o hlt]; exact World.frozen?_setCell ..
  · have := h.2; simp [World.setCell]; exact this
end Go.Proofs.YtoiijifnfdgfpaaGreatDoor

/- Walks: fractions in lowest terms. -/
namespace Go.Proofs.YtoiijifnfdgfpaaGreatDoor
open Go Go.RowKit Bn
attribute [local go_sem ↓] Go.wp_at_zero Go.wp_at_succ
theorem int_q (i : Int) : Rat.divInt i 1 = (i : Rat) := by have := q_eq (i : Rat); simpa using this.symm
theorem sign3 (z : Int) : z = 0 ∨ z.sign = 1 ∨ z.sign = -1 := by
  rcases Int.lt_trichotomy z 0 with h | h | h
  · exact .inr (.inr (Int.sign_eq_neg_one_of_neg h))
  · exact .inl h
  · exact .inr (.inl (Int.sign_eq_one_of_pos h))
theorem sign_pos {z : Int} (h : z.sign = 1) : 0 < z := Int.sign_eq_one_iff_pos.1 h
theorem sign_neg_ {z : Int} (h : z.sign = -1) : 0 < -z := by have := Int.sign_eq_neg_one_iff_neg.1 h; omega
theorem sign_ne {z : Int} (h : z.sign = -1) : z ≠ 0 := by rintro rfl; cases h
theorem gcd_ne {a b : Int} (h : 0 < b) : ((Nat.gcd a.natAbs b.natAbs : Nat) : Int) ≠ 0 := by
  have : 0 < Nat.gcd a.natAbs b.natAbs := Nat.gcd_pos_of_pos_right _ (by omega)
  omega
theorem wh_div {a : Int} (g : Nat) (h : 0 < a) : (wh (a / (g : Int))).mag = digs (a.natAbs / g) := by
  have e : (a / (g : Int)) = ((a.natAbs / g : Nat) : Int) := by
    rw [Int.natCast_ediv, Int.natAbs_of_nonneg (by omega)]
  rw [e]; rfl
theorem form_pos {z d : Int} {q : Rat} (hz : z.sign = 1) (hd : 0 < d) (hq : Rat.divInt z d = q) :
    (rd q).num = (wh (z / ((Nat.gcd z.natAbs d.natAbs : Nat) : Int))).mag ∧ (rd q).den = (wh (d / ((Nat.gcd z.natAbs d.natAbs : Nat) : Int))).mag ∧ (rd q).neg = false := by
  have hp := sign_pos hz
  rw [← hq, rd_divInt (by omega) hd, wh_div _ hp, wh_div _ hd]
  exact ⟨rfl, rfl, by simp; omega⟩
theorem form_neg {z d : Int} {q : Rat} (hz : z.sign = -1) (hd : 0 < d) (hq : Rat.divInt z d = q) :
    (rd q).num = (wh (-z / ((Nat.gcd z.natAbs d.natAbs : Nat) : Int))).mag ∧ (rd q).den = (wh (d / ((Nat.gcd z.natAbs d.natAbs : Nat) : Int))).mag ∧ (rd q).neg = true := by
  have hp := sign_neg_ hz
  rw [← hq, rd_divInt (by omega) hd, wh_div _ hp, wh_div _ hd, Int.natAbs_neg]
  exact ⟨rfl, rfl, by simp; omega⟩
theorem i_sign_e (w : World) (b A n c z k) (h : IZ w b A n c z k) (s : Int) (hs : z.sign = s) (hk : k ≤ 1000000000) : Calls Tryz.prog 77 #[.agg #[.bool b, .slice A n c]] w (RetV w (.int .i64 s)) := by
  subst hs; exact i_sign w b A n c z k h hk
theorem f_form_0 (w : World) (b A n c z k) (h : IZ w b A n c z k) (b' A' n' c' z' k') (h' : IZ w b' A' n' c' z' k') (K : Nat) (hz : z = 0) (hk : k + k' ≤ 300000000) :
  Calls Tryz.prog 78 #[.agg #[.bool b, .slice A n c], .agg #[.bool b', .slice A' n' c']] w (RetF w 0 K) := by
 have HZ := Lib.hid (show z.sign = 0 by rw [hz]; rfl)
 clear hz
 go_enter Tryz.func78, Tryz.ntmps78
 go_wp2_with fail
 (with_reducible refine (i_sign_e _ b A n c (z) (k) ?_ (0) ?_ ?_).mono ?_); (exact (h.belw ((((Below.refl _ _).alloc (Nat.le_refl _) _).alloc (by simp) _).alloc (by simp <;> omega) _))); (exact HZ.out); (omega); rintro e w1 ⟨rfl, hb1⟩
 have q1 := hb1.q3
 replace h := h.belw q1
 replace h' := h'.belw q1
 have x1a : Blk w1 w.heap.size 123 #[.bool b, .slice A n c] := (((blkAt _ _ _ (by simp)).alloc _).alloc _).below hb1 (by simp <;> omega)
 have x1b := ((blkAt _ _ _ (g := w.heap.size + 1) (by simp)).alloc _).below hb1 (by simp <;> omega)
 have x1c := (blkAt _ _ _ (g := w.heap.size + 1 + 1) (by simp)).below hb1 (by simp)
 have bw1 := (brefl w).trans (q1.mono (brefl w).size)
 have lw1 := hb1.l3
 clear q1
 have cx1c := x1c.c3
 have fx1c := x1c.f3
 have lx1c := lts2 x1c.lt
 go_wp2_with fail
 refine bodyPost_ret (v := .agg #[.bool false, .slice none 0 0, .slice none 0 0]) (by simp [results, Tryz.results78, go_sem, *] <;> trivial) rfl ?_
 exact ⟨false, none, 0, 0, none, 0, 0, rfl, QV.zero _ _, (((bw1.sc (w.heap.size + 1 + 1) 0 (by omega) (.bool false)).sc (w.heap.size + 1 + 1) 1 (by omega) (.slice none 0 0)).sc (w.heap.size + 1 + 1) 2 (by omega) (.slice none 0 0))⟩
theorem f_form_pp (w : World) (b A n c z k) (h : IZ w b A n c z k) (b' A' n' c' z' k') (h' : IZ w b' A' n' c' z' k') (q : Rat) (K : Nat) (hz : z.sign = 1) (hd : z'.sign = 1) (hq : Rat.divInt z z' = q) (hs : Sz q K) (hk : k + k' ≤ 300000000) :
  Calls Tryz.prog 78 #[.agg #[.bool b, .slice A n c], .agg #[.bool b', .slice A' n' c']] w (RetF w q K) := by
 have HZ := Lib.hid hz
 have HD := Lib.hid hd
 have HN := Lib.hid (show (z).sign = 1 by exact hz)
 have HP := Lib.hid (show 0 < z' by exact sign_pos hd)
 have HG := Lib.hid (show ((Nat.gcd (z).natAbs (z').natAbs : Nat) : Int) ≠ 0 from gcd_ne HP.out)
 have HQ := Lib.hid (show Rat.divInt z z' = q by exact hq)
 have HS := Lib.hid hs
 clear hz hd hq hs
 go_enter Tryz.func78, Tryz.ntmps78
 go_wp2_with fail
 (with_reducible refine (i_sign_e _ b A n c (z) (k) ?_ (1) ?_ ?_).mono ?_); (exact (h.belw ((((Below.refl _ _).alloc (Nat.le_refl _) _).alloc (by simp) _).alloc (by simp <;> omega) _))); (exact HZ.out); (omega); rintro e w1 ⟨rfl, hb1⟩
 have q1 := hb1.q3
 replace h := h.belw q1
 replace h' := h'.belw q1
 have x1a : Blk w1 w.heap.size 123 #[.bool b, .slice A n c] := (((blkAt _ _ _ (by simp)).alloc _).alloc _).below hb1 (by simp <;> omega)
 have x1b := ((blkAt _ _ _ (g := w.heap.size + 1) (by simp)).alloc _).below hb1 (by simp <;> omega)
 have x1c := (blkAt _ _ _ (g := w.heap.size + 1 + 1) (by simp)).below hb1 (by simp)
 have bw1 := (brefl w).trans (q1.mono (brefl w).size)
 have lw1 := hb1.l3
 clear q1
 obtain ⟨cx1ba, cx1bb⟩ := x1b.c2
 obtain ⟨lx1ba, lx1bb, lx1bc, lx1bd⟩ := lts1 x1b.lt
 go_wp2_with fail
 (with_reducible refine (i_sign_e _ b' A' n' c' (z') (k') ?_ (1) ?_ ?_).mono ?_); (exact h'); (exact HD.out); (omega); rintro e w2 ⟨rfl, q2⟩
 clear cx1ba cx1bb lx1ba lx1bb lx1bc lx1bd
 replace h := h.belw q2
 replace h' := h'.belw q2
 replace x1a := x1a.b q2
 replace x1b := x1b.b q2
 replace x1c := x1c.b q2
 have bw2 := bw1.trans (q2.mono bw1.size)
 have lw2 := q2.size
 clear q2 bw1
 obtain ⟨cx1aa, cx1ab⟩ := x1a.c2
 obtain ⟨lx1aa, lx1ab, lx1ac, lx1ad⟩ := lts0 x1a.lt
 obtain ⟨cx1ba, cx1bb⟩ := x1b.c2
 obtain ⟨lx1ba, lx1bb, lx1bc, lx1bd⟩ := lts1 x1b.lt
 go_wp2_with fail
 (with_reducible refine (i_gcd _ b A n c (z) (k) ?_ b' A' n' c' (z') (k') ?_ ?_).mono ?_); (exact h); (exact h'); (omega); rintro e w3 ⟨b3, A3, n3, c3, rfl, h3, q3⟩
 clear cx1aa cx1ab lx1aa lx1ab lx1ac lx1ad cx1ba cx1bb lx1ba lx1bb lx1bc lx1bd
 replace h := h.belw q3
 replace h' := h'.belw q3
 replace x1a := x1a.b q3
 replace x1b := x1b.b q3
 replace x1c := x1c.b q3
 have bw3 := bw2.trans (q3.mono bw2.size)
 have lw3 := q3.size
 clear q3 bw2
 obtain ⟨cx1aa, cx1ab⟩ := x1a.c2
 obtain ⟨lx1aa, lx1ab, lx1ac, lx1ad⟩ := lts0 x1a.lt
 go_wp2_with fail
 (with_reducible refine (i_sign_e _ b A n c (z) (k) ?_ (1) ?_ ?_).mono ?_); (exact (h.belw ((Below.refl _ _).alloc (Nat.le_refl _) _))); (exact HN.out); (omega); rintro e w4 ⟨rfl, hb4⟩
 clear cx1aa cx1ab lx1aa lx1ab lx1ac lx1ad
 have q4 := hb4.q1
 replace h := h.belw q4
 replace h' := h'.belw q4
 replace h3 := h3.belw q4
 replace x1a := x1a.b q4
 replace x1b := x1b.b q4
 replace x1c := x1c.b q4
 have x4a : Blk w4 w3.heap.size 123 #[.bool b3, .slice A3 n3 c3] := (blkAt _ _ _ (by simp)).below hb4 (by simp)
 have bw4 := bw3.trans (q4.mono bw3.size)
 have lw4 := hb4.l1
 clear q4 bw3
 obtain ⟨cx1aa, cx1ab⟩ := x1a.c2
 obtain ⟨lx1aa, lx1ab, lx1ac, lx1ad⟩ := lts0 x1a.lt
 obtain ⟨cx4aa, cx4ab⟩ := x4a.c2
 obtain ⟨lx4aa, lx4ab, lx4ac, lx4ad⟩ := lts0 x4a.lt
 go_wp2_with fail
 (with_reducible refine (i_div _ b A n c (z) (k) ?_ b3 A3 n3 c3 ((Nat.gcd ((z)).natAbs ((z')).natAbs : Nat)) ((k) + (k')) ?_  ?_ ?_).mono ?_); (exact h); (exact h3.iz); (omega); (exact HG.out); rintro e w5 ⟨b5, A5, n5, c5, b'5, A'5, n'5, c'5, rfl, h5, h'5, q5⟩
 clear cx1aa cx1ab lx1aa lx1ab lx1ac lx1ad cx4aa cx4ab lx4aa lx4ab lx4ac lx4ad
 replace h := h.belw q5
 replace h' := h'.belw q5
 replace h3 := h3.belw q5
 replace x1a := x1a.b q5
 replace x1b := x1b.b q5
 replace x1c := x1c.b q5
 replace x4a := x4a.b q5
 have bw5 := bw4.trans (q5.mono bw4.size)
 have lw5 := q5.size
 clear q5 bw4
 obtain ⟨cx1aa, cx1ab⟩ := x1a.c2
 have fx1a := x1a.f2
 obtain ⟨lx1aa, lx1ab, lx1ac, lx1ad⟩ := lts0 x1a.lt
 obtain ⟨cx1ba, cx1bb⟩ := x1b.c2
 obtain ⟨lx1ba, lx1bb, lx1bc, lx1bd⟩ := lts1 x1b.lt
 obtain ⟨cx4aa, cx4ab⟩ := x4a.c2
 obtain ⟨lx4aa, lx4ab, lx4ac, lx4ad⟩ := lts0 x4a.lt
 go_wp2_with fail
 clear cx1aa fx1a cx1ab lx1aa lx1ab lx1ac lx1ad cx1ba cx1bb lx1ba lx1bb lx1bc lx1bd cx4aa cx4ab lx4aa lx4ab lx4ac lx4ad
 have p6 := (((Kp.refl w5).sb w.heap.size 0 x1a.box (by decide) (.bool b5)).sb w.heap.size 1 (x1a.box.set ⟨w.heap.size, 0, none⟩ (.bool b5)) (by decide) (.slice A5 n5 c5))
 have bw6 := ((bw5.sc w.heap.size 0 (by omega) (.bool b5)).sc w.heap.size 1 (by omega) (.slice A5 n5 c5))
 replace x1a := ((x1a.set_at 0 (.bool b5) #[.bool b5, .slice A n c] (by simp)).set_at 1 (.slice A5 n5 c5) #[.bool b5, .slice A5 n5 c5] (by simp))
 replace x1b := ((x1b.fr w.heap.size 0 (by omega) (.bool b5)).fr w.heap.size 1 (by omega) (.slice A5 n5 c5))
 replace x1c := ((x1c.fr w.heap.size 0 (by omega) (.bool b5)).fr w.heap.size 1 (by omega) (.slice A5 n5 c5))
 replace x4a := ((x4a.fr w.heap.size 0 (by omega) (.bool b5)).fr w.heap.size 1 (by omega) (.slice A5 n5 c5))
 have lw6 : w5.heap.size + 0 ≤ ((w5.setCell ⟨w.heap.size, 0, none⟩ (.bool b5)).setCell ⟨w.heap.size, 1, none⟩ (.slice A5 n5 c5)).heap.size := by simp
 generalize hE6 : ((w5.setCell ⟨w.heap.size, 0, none⟩ (.bool b5)).setCell ⟨w.heap.size, 1, none⟩ (.slice A5 n5 c5)) = w6 at p6 bw6 lw6 x1a x1b x1c x4a ⊢
 clear hE6
 replace h := h.keep p6
 replace h' := h'.keep p6
 replace h3 := h3.keep p6
 replace h5 := h5.keep p6
 replace h'5 := h'5.keep p6
 clear bw5
 (with_reducible refine (i_div _ b' A' n' c' (z') (k') ?_ b3 A3 n3 c3 ((Nat.gcd ((z)).natAbs ((z')).natAbs : Nat)) ((k) + (k')) ?_  ?_ ?_).mono ?_); (exact h'); (exact h3.iz); (omega); (exact HG.out); rintro e w7 ⟨b7, A7, n7, c7, b'7, A'7, n'7, c'7, rfl, h7, h'7, q7⟩
 replace h := h.belw q7
 replace h' := h'.belw q7
 replace h3 := h3.belw q7
 replace h5 := h5.belw q7
 replace h'5 := h'5.belw q7
 replace x1a := x1a.b q7
 replace x1b := x1b.b q7
 replace x1c := x1c.b q7
 replace x4a := x4a.b q7
 have bw7 := bw6.trans (q7.mono bw6.size)
 have lw7 := q7.size
 clear q7 bw6
 obtain ⟨cx1aa, cx1ab⟩ := x1a.c2
 obtain ⟨lx1aa, lx1ab, lx1ac, lx1ad⟩ := lts0 x1a.lt
 obtain ⟨cx1ba, cx1bb⟩ := x1b.c2
 have fx1b := x1b.f2
 obtain ⟨lx1ba, lx1bb, lx1bc, lx1bd⟩ := lts1 x1b.lt
 have cx1c := x1c.c3
 have fx1c := x1c.f3
 have lx1c := lts2 x1c.lt
 go_wp2_with fail
 refine bodyPost_ret (v := .agg #[.bool false, .slice A5 n5 c5, .slice A7 n7 c7]) (by simp [results, Tryz.results78, go_sem, *] <;> trivial) rfl ?_
 obtain ⟨e1, e2, e3⟩ := form_pos HN.out HP.out HQ.out
 exact ⟨_, _, _, _, _, _, _, rfl, QV.mk_ (by rw [e1]; exact h5.2.1.keep ((((((Kp.refl w7).sb (w.heap.size + 1) 0 x1b.box (by decide) (.bool b7)).sb (w.heap.size + 1) 1 (x1b.box.set ⟨w.heap.size + 1, 0, none⟩ (.bool b7)) (by decide) (.slice A7 n7 c7)).sb (w.heap.size + 1 + 1) 0 ((x1c.box.set ⟨w.heap.size + 1, 0, none⟩ (.bool b7)).set ⟨w.heap.size + 1, 1, none⟩ (.slice A7 n7 c7)) (by decide) (.bool false)).sb (w.heap.size + 1 + 1) 1 (((x1c.box.set ⟨w.heap.size + 1, 0, none⟩ (.bool b7)).set ⟨w.heap.size + 1, 1, none⟩ (.slice A7 n7 c7)).set ⟨w.heap.size + 1 + 1, 0, none⟩ (.bool false)) (by decide) (.slice A5 n5 c5)).sb (w.heap.size + 1 + 1) 2 ((((x1c.box.set ⟨w.heap.size + 1, 0, none⟩ (.bool b7)).set ⟨w.heap.size + 1, 1, none⟩ (.slice A7 n7 c7)).set ⟨w.heap.size + 1 + 1, 0, none⟩ (.bool false)).set ⟨w.heap.size + 1 + 1, 1, none⟩ (.slice A5 n5 c5)) (by decide) (.slice A7 n7 c7))) (by rw [e2]; exact h7.2.1.keep ((((((Kp.refl w7).sb (w.heap.size + 1) 0 x1b.box (by decide) (.bool b7)).sb (w.heap.size + 1) 1 (x1b.box.set ⟨w.heap.size + 1, 0, none⟩ (.bool b7)) (by decide) (.slice A7 n7 c7)).sb (w.heap.size + 1 + 1) 0 ((x1c.box.set ⟨w.heap.size + 1, 0, none⟩ (.bool b7)).set ⟨w.heap.size + 1, 1, none⟩ (.slice A7 n7 c7)) (by decide) (.bool false)).sb (w.heap.size + 1 + 1) 1 (((x1c.box.set ⟨w.heap.size + 1, 0, none⟩ (.bool b7)).set ⟨w.heap.size + 1, 1, none⟩ (.slice A7 n7 c7)).set ⟨w.heap.size + 1 + 1, 0, none⟩ (.bool false)) (by decide) (.slice A5 n5 c5)).sb (w.heap.size + 1 + 1) 2 ((((x1c.box.set ⟨w.heap.size + 1, 0, none⟩ (.bool b7)).set ⟨w.heap.size + 1, 1, none⟩ (.slice A7 n7 c7)).set ⟨w.heap.size + 1 + 1, 0, none⟩ (.bool false)).set ⟨w.heap.size + 1 + 1, 1, none⟩ (.slice A5 n5 c5)) (by decide) (.slice A7 n7 c7))) e3 HS.out, (((((bw7.sc (w.heap.size + 1) 0 (by omega) (.bool b7)).sc (w.heap.size + 1) 1 (by omega) (.slice A7 n7 c7)).sc (w.heap.size + 1 + 1) 0 (by omega) (.bool false)).sc (w.heap.size + 1 + 1) 1 (by omega) (.slice A5 n5 c5)).sc (w.heap.size + 1 + 1) 2 (by omega) (.slice A7 n7 c7))⟩
theorem f_form_pn (w : World) (b A n c z k) (h : IZ w b A n c z k) (b' A' n' c' z' k') (h' : IZ w b' A' n' c' z' k') (q : Rat) (K : Nat) (hz : z.sign = -1) (hd : z'.sign = 1) (hq : Rat.divInt z z' = q) (hs : Sz q K) (hk : k + k' ≤ 300000000) :
  Calls Tryz.prog 78 #[.agg #[.bool b, .slice A n c], .agg #[.bool b', .slice A' n' c']] w (RetF w q K) := by
 have HZ := Lib.hid hz
 have HD := Lib.hid hd
 have HN := Lib.hid (show (z).sign = -1 by exact hz)
 have HP := Lib.hid (show 0 < z' by exact sign_pos hd)
 have HG := Lib.hid (show ((Nat.gcd (z).natAbs (z').natAbs : Nat) : Int) ≠ 0 from gcd_ne HP.out)
 have HQ := Lib.hid (show Rat.divInt z z' = q by exact hq)
 have HS := Lib.hid hs
 clear hz hd hq hs
 go_enter Tryz.func78, Tryz.ntmps78
 go_wp2_with fail
 (with_reducible refine (i_sign_e _ b A n c (z) (k) ?_ (-1) ?_ ?_).mono ?_); (exact (h.belw ((((Below.refl _ _).alloc (Nat.le_refl _) _).alloc (by simp) _).alloc (by simp <;> omega) _))); (exact HZ.out); (omega); rintro e w1 ⟨rfl, hb1⟩
 have q1 := hb1.q3
 replace h := h.belw q1
 replace h' := h'.belw q1
 have x1a : Blk w1 w.heap.size 123 #[.bool b, .slice A n c] := (((blkAt _ _ _ (by simp)).alloc _).alloc _).below hb1 (by simp <;> omega)
 have x1b := ((blkAt _ _ _ (g := w.heap.size + 1) (by simp)).alloc _).below hb1 (by simp <;> omega)
 have x1c := (blkAt _ _ _ (g := w.heap.size + 1 + 1) (by simp)).below hb1 (by simp)
 have bw1 := (brefl w).trans (q1.mono (brefl w).size)
 have lw1 := hb1.l3
 clear q1
 obtain ⟨cx1ba, cx1bb⟩ := x1b.c2
 obtain ⟨lx1ba, lx1bb, lx1bc, lx1bd⟩ := lts1 x1b.lt
 go_wp2_with fail
 (with_reducible refine (i_sign_e _ b' A' n' c' (z') (k') ?_ (1) ?_ ?_).mono ?_); (exact h'); (exact HD.out); (omega); rintro e w2 ⟨rfl, q2⟩
 clear cx1ba cx1bb lx1ba lx1bb lx1bc lx1bd
 replace h := h.belw q2
 replace h' := h'.belw q2
 replace x1a := x1a.b q2
 replace x1b := x1b.b q2
 replace x1c := x1c.b q2
 have bw2 := bw1.trans (q2.mono bw1.size)
 have lw2 := q2.size
 clear q2 bw1
 obtain ⟨cx1aa, cx1ab⟩ := x1a.c2
 obtain ⟨lx1aa, lx1ab, lx1ac, lx1ad⟩ := lts0 x1a.lt
 obtain ⟨cx1ba, cx1bb⟩ := x1b.c2
 obtain ⟨lx1ba, lx1bb, lx1bc, lx1bd⟩ := lts1 x1b.lt
 go_wp2_with fail
 (with_reducible refine (i_gcd _ b A n c (z) (k) ?_ b' A' n' c' (z') (k') ?_ ?_).mono ?_); (exact h); (exact h'); (omega); rintro e w3 ⟨b3, A3, n3, c3, rfl, h3, q3⟩
 clear cx1aa cx1ab lx1aa lx1ab lx1ac lx1ad cx1ba cx1bb lx1ba lx1bb lx1bc lx1bd
 replace h := h.belw q3
 replace h' := h'.belw q3
 replace x1a := x1a.b q3
 replace x1b := x1b.b q3
 replace x1c := x1c.b q3
 have bw3 := bw2.trans (q3.mono bw2.size)
 have lw3 := q3.size
 clear q3 bw2
 obtain ⟨cx1aa, cx1ab⟩ := x1a.c2
 obtain ⟨lx1aa, lx1ab, lx1ac, lx1ad⟩ := lts0 x1a.lt
 go_wp2_with fail
 (with_reducible refine (i_sign_e _ b A n c (z) (k) ?_ (-1) ?_ ?_).mono ?_); (exact (h.belw ((Below.refl _ _).alloc (Nat.le_refl _) _))); (exact HN.out); (omega); rintro e w4 ⟨rfl, hb4⟩
 clear cx1aa cx1ab lx1aa lx1ab lx1ac lx1ad
 have q4 := hb4.q1
 replace h := h.belw q4
 replace h' := h'.belw q4
 replace h3 := h3.belw q4
 replace x1a := x1a.b q4
 replace x1b := x1b.b q4
 replace x1c := x1c.b q4
 have x4a : Blk w4 w3.heap.size 123 #[.bool b3, .slice A3 n3 c3] := (blkAt _ _ _ (by simp)).below hb4 (by simp)
 have bw4 := bw3.trans (q4.mono bw3.size)
 have lw4 := hb4.l1
 clear q4 bw3
 obtain ⟨cx1aa, cx1ab⟩ := x1a.c2
 obtain ⟨lx1aa, lx1ab, lx1ac, lx1ad⟩ := lts0 x1a.lt
 go_wp2_with fail
 (with_reducible refine (i_neg _ b A n c (z) (k) ?_ ?_).mono ?_); (exact h); (omega); rintro e w5 ⟨b5, A5, n5, c5, rfl, h5, q5⟩
 clear cx1aa cx1ab lx1aa lx1ab lx1ac lx1ad
 replace h := h.belw q5
 replace h' := h'.belw q5
 replace h3 := h3.belw q5
 replace x1a := x1a.b q5
 replace x1b := x1b.b q5
 replace x1c := x1c.b q5
 replace x4a := x4a.b q5
 have bw5 := bw4.trans (q5.mono bw4.size)
 have lw5 := q5.size
 clear q5 bw4
 obtain ⟨cx1aa, cx1ab⟩ := x1a.c2
 obtain ⟨fx1aa, fx1ab⟩ := x1a.f2
 obtain ⟨lx1aa, lx1ab, lx1ac, lx1ad⟩ := lts0 x1a.lt
 obtain ⟨cx4aa, cx4ab⟩ := x4a.c2
 obtain ⟨lx4aa, lx4ab, lx4ac, lx4ad⟩ := lts0 x4a.lt
 go_wp2_with fail
 clear cx1aa fx1aa cx1ab fx1ab lx1aa lx1ab lx1ac lx1ad cx4aa cx4ab lx4aa lx4ab lx4ac lx4ad
 have p6 := (((Kp.refl w5).sb w.heap.size 0 x1a.box (by decide) (.bool b5)).sb w.heap.size 1 (x1a.box.set ⟨w.heap.size, 0, none⟩ (.bool b5)) (by decide) (.slice A5 n5 c5))
 have bw6 := ((bw5.sc w.heap.size 0 (by omega) (.bool b5)).sc w.heap.size 1 (by omega) (.slice A5 n5 c5))
 replace x1a := ((x1a.set_at 0 (.bool b5) #[.bool b5, .slice A n c] (by simp)).set_at 1 (.slice A5 n5 c5) #[.bool b5, .slice A5 n5 c5] (by simp))
 replace x1b := ((x1b.fr w.heap.size 0 (by omega) (.bool b5)).fr w.heap.size 1 (by omega) (.slice A5 n5 c5))
 replace x1c := ((x1c.fr w.heap.size 0 (by omega) (.bool b5)).fr w.heap.size 1 (by omega) (.slice A5 n5 c5))
 replace x4a := ((x4a.fr w.heap.size 0 (by omega) (.bool b5)).fr w.heap.size 1 (by omega) (.slice A5 n5 c5))
 have lw6 : w5.heap.size + 0 ≤ ((w5.setCell ⟨w.heap.size, 0, none⟩ (.bool b5)).setCell ⟨w.heap.size, 1, none⟩ (.slice A5 n5 c5)).heap.size := by simp
 generalize hE6 : ((w5.setCell ⟨w.heap.size, 0, none⟩ (.bool b5)).setCell ⟨w.heap.size, 1, none⟩ (.slice A5 n5 c5)) = w6 at p6 bw6 lw6 x1a x1b x1c x4a ⊢
 clear hE6
 replace h := h.keep p6
 replace h' := h'.keep p6
 replace h3 := h3.keep p6
 replace h5 := h5.keep p6
 clear bw5
 (with_reducible refine (i_div _ b5 A5 n5 c5 (-(z)) ((k)) ?_ b3 A3 n3 c3 ((Nat.gcd ((z)).natAbs ((z')).natAbs : Nat)) ((k) + (k')) ?_  ?_ ?_).mono ?_); (exact h5.iz); (exact h3.iz); (omega); (exact HG.out); rintro e w7 ⟨b7, A7, n7, c7, b'7, A'7, n'7, c'7, rfl, h7, h'7, q7⟩
 replace h := h.belw q7
 replace h' := h'.belw q7
 replace h3 := h3.belw q7
 replace h5 := h5.belw q7
 replace x1a := x1a.b q7
 replace x1b := x1b.b q7
 replace x1c := x1c.b q7
 replace x4a := x4a.b q7
 have bw7 := bw6.trans (q7.mono bw6.size)
 have lw7 := q7.size
 clear q7 bw6
 obtain ⟨cx1aa, cx1ab⟩ := x1a.c2
 obtain ⟨fx1aa, fx1ab⟩ := x1a.f2
 obtain ⟨lx1aa, lx1ab, lx1ac, lx1ad⟩ := lts0 x1a.lt
 obtain ⟨cx1ba, cx1bb⟩ := x1b.c2
 obtain ⟨lx1ba, lx1bb, lx1bc, lx1bd⟩ := lts1 x1b.lt
 obtain ⟨cx4aa, cx4ab⟩ := x4a.c2
 obtain ⟨lx4aa, lx4ab, lx4ac, lx4ad⟩ := lts0 x4a.lt
 go_wp2_with fail
 clear cx1aa fx1aa cx1ab fx1ab lx1aa lx1ab lx1ac lx1ad cx1ba cx1bb lx1ba lx1bb lx1bc lx1bd cx4aa cx4ab lx4aa lx4ab lx4ac lx4ad
 have p8 := (((Kp.refl w7).sb w.heap.size 0 x1a.box (by decide) (.bool b7)).sb w.heap.size 1 (x1a.box.set ⟨w.heap.size, 0, none⟩ (.bool b7)) (by decide) (.slice A7 n7 c7))
 have bw8 := ((bw7.sc w.heap.size 0 (by omega) (.bool b7)).sc w.heap.size 1 (by omega) (.slice A7 n7 c7))
 replace x1a := ((x1a.set_at 0 (.bool b7) #[.bool b7, .slice A5 n5 c5] (by simp)).set_at 1 (.slice A7 n7 c7) #[.bool b7, .slice A7 n7 c7] (by simp))
 replace x1b := ((x1b.fr w.heap.size 0 (by omega) (.bool b7)).fr w.heap.size 1 (by omega) (.slice A7 n7 c7))
 replace x1c := ((x1c.fr w.heap.size 0 (by omega) (.bool b7)).fr w.heap.size 1 (by omega) (.slice A7 n7 c7))
 replace x4a := ((x4a.fr w.heap.size 0 (by omega) (.bool b7)).fr w.heap.size 1 (by omega) (.slice A7 n7 c7))
 have lw8 : w7.heap.size + 0 ≤ ((w7.setCell ⟨w.heap.size, 0, none⟩ (.bool b7)).setCell ⟨w.heap.size, 1, none⟩ (.slice A7 n7 c7)).heap.size := by simp
 generalize hE8 : ((w7.setCell ⟨w.heap.size, 0, none⟩ (.bool b7)).setCell ⟨w.heap.size, 1, none⟩ (.slice A7 n7 c7)) = w8 at p8 bw8 lw8 x1a x1b x1c x4a ⊢
 clear hE8
 replace h := h.keep p8
 replace h' := h'.keep p8
 replace h3 := h3.keep p8
 replace h5 := h5.keep p8
 replace h7 := h7.keep p8
 replace h'7 := h'7.keep p8
 clear bw7
 (with_reducible refine (i_div _ b' A' n' c' (z') (k') ?_ b3 A3 n3 c3 ((Nat.gcd ((z)).natAbs ((z')).natAbs : Nat)) ((k) + (k')) ?_  ?_ ?_).mono ?_); (exact h'); (exact h3.iz); (omega); (exact HG.out); rintro e w9 ⟨b9, A9, n9, c9, b'9, A'9, n'9, c'9, rfl, h9, h'9, q9⟩
 replace h := h.belw q9
 replace h' := h'.belw q9
 replace h3 := h3.belw q9
 replace h5 := h5.belw q9
 replace h7 := h7.belw q9
 replace h'7 := h'7.belw q9
 replace x1a := x1a.b q9
 replace x1b := x1b.b q9
 replace x1c := x1c.b q9
 replace x4a := x4a.b q9
 have bw9 := bw8.trans (q9.mono bw8.size)
 have lw9 := q9.size
 clear q9 bw8
 obtain ⟨cx1aa, cx1ab⟩ := x1a.c2
 obtain ⟨lx1aa, lx1ab, lx1ac, lx1ad⟩ := lts0 x1a.lt
 obtain ⟨cx1ba, cx1bb⟩ := x1b.c2
 have fx1b := x1b.f2
 obtain ⟨lx1ba, lx1bb, lx1bc, lx1bd⟩ := lts1 x1b.lt
 have cx1c := x1c.c3
 have fx1c := x1c.f3
 have lx1c := lts2 x1c.lt
 go_wp2_with fail
 refine bodyPost_ret (v := .agg #[.bool true, .slice A7 n7 c7, .slice A9 n9 c9]) (by simp [results, Tryz.results78, go_sem, *] <;> trivial) rfl ?_
 obtain ⟨e1, e2, e3⟩ := form_neg HN.out HP.out HQ.out
 exact ⟨_, _, _, _, _, _, _, rfl, QV.mk_ (by rw [e1]; exact h7.2.1.keep ((((((Kp.refl w9).sb (w.heap.size + 1) 0 x1b.box (by decide) (.bool b9)).sb (w.heap.size + 1) 1 (x1b.box.set ⟨w.heap.size + 1, 0, none⟩ (.bool b9)) (by decide) (.slice A9 n9 c9)).sb (w.heap.size + 1 + 1) 0 ((x1c.box.set ⟨w.heap.size + 1, 0, none⟩ (.bool b9)).set ⟨w.heap.size + 1, 1, none⟩ (.slice A9 n9 c9)) (by decide) (.bool true)).sb (w.heap.size + 1 + 1) 1 (((x1c.box.set ⟨w.heap.size + 1, 0, none⟩ (.bool b9)).set ⟨w.heap.size + 1, 1, none⟩ (.slice A9 n9 c9)).set ⟨w.heap.size + 1 + 1, 0, none⟩ (.bool true)) (by decide) (.slice A7 n7 c7)).sb (w.heap.size + 1 + 1) 2 ((((x1c.box.set ⟨w.heap.size + 1, 0, none⟩ (.bool b9)).set ⟨w.heap.size + 1, 1, none⟩ (.slice A9 n9 c9)).set ⟨w.heap.size + 1 + 1, 0, none⟩ (.bool true)).set ⟨w.heap.size + 1 + 1, 1, none⟩ (.slice A7 n7 c7)) (by decide) (.slice A9 n9 c9))) (by rw [e2]; exact h9.2.1.keep ((((((Kp.refl w9).sb (w.heap.size + 1) 0 x1b.box (by decide) (.bool b9)).sb (w.heap.size + 1) 1 (x1b.box.set ⟨w.heap.size + 1, 0, none⟩ (.bool b9)) (by decide) (.slice A9 n9 c9)).sb (w.heap.size + 1 + 1) 0 ((x1c.box.set ⟨w.heap.size + 1, 0, none⟩ (.bool b9)).set ⟨w.heap.size + 1, 1, none⟩ (.slice A9 n9 c9)) (by decide) (.bool true)).sb (w.heap.size + 1 + 1) 1 (((x1c.box.set ⟨w.heap.size + 1, 0, none⟩ (.bool b9)).set ⟨w.heap.size + 1, 1, none⟩ (.slice A9 n9 c9)).set ⟨w.heap.size + 1 + 1, 0, none⟩ (.bool true)) (by decide) (.slice A7 n7 c7)).sb (w.heap.size + 1 + 1) 2 ((((x1c.box.set ⟨w.heap.size + 1, 0, none⟩ (.bool b9)).set ⟨w.heap.size + 1, 1, none⟩ (.slice A9 n9 c9)).set ⟨w.heap.size + 1 + 1, 0, none⟩ (.bool true)).set ⟨w.heap.size + 1 + 1, 1, none⟩ (.slice A7 n7 c7)) (by decide) (.slice A9 n9 c9))) e3 HS.out, (((((bw9.sc (w.heap.size + 1) 0 (by omega) (.bool b9)).sc (w.heap.size + 1) 1 (by omega) (.slice A9 n9 c9)).sc (w.heap.size + 1 + 1) 0 (by omega) (.bool true)).sc (w.heap.size + 1 + 1) 1 (by omega) (.slice A7 n7 c7)).sc (w.heap.size + 1 + 1) 2 (by omega) (.slice A9 n9 c9))⟩
theorem f_form_np (w : World) (b A n c z k) (h : IZ w b A n c z k) (b' A' n' c' z' k') (h' : IZ w b' A' n' c' z' k') (q : Rat) (K : Nat) (hz : z.sign = 1) (hd : z'.sign = -1) (hq : Rat.divInt z z' = q) (hs : Sz q K) (hk : k + k' ≤ 300000000) :
  Calls Tryz.prog 78 #[.agg #[.bool b, .slice A n c], .agg #[.bool b', .slice A' n' c']] w (RetF w q K) := by
 have HZ := Lib.hid hz
 have HD := Lib.hid hd
 have HN := Lib.hid (show ((-z)).sign = -1 by rw [Int.sign_neg, hz] <;> rfl)
 have HP := Lib.hid (show 0 < (-z') by exact sign_neg_ hd)
 have HG := Lib.hid (show ((Nat.gcd ((-z)).natAbs ((-z')).natAbs : Nat) : Int) ≠ 0 from gcd_ne HP.out)
 have HQ := Lib.hid (show Rat.divInt (-z) (-z') = q by rw [divInt_neg_neg _ _ (sign_ne hd)]; exact hq)
 have HS := Lib.hid hs
 clear hz hd hq hs
 go_enter Tryz.func78, Tryz.ntmps78
 go_wp2_with fail
 (with_reducible refine (i_sign_e _ b A n c (z) (k) ?_ (1) ?_ ?_).mono ?_); (exact (h.belw ((((Below.refl _ _).alloc (Nat.le_refl _) _).alloc (by simp) _).alloc (by simp <;> omega) _))); (exact HZ.out); (omega); rintro e w1 ⟨rfl, hb1⟩
 have q1 := hb1.q3
 replace h := h.belw q1
 replace h' := h'.belw q1
 have x1a : Blk w1 w.heap.size 123 #[.bool b, .slice A n c] := (((blkAt _ _ _ (by simp)).alloc _).alloc _).below hb1 (by simp <;> omega)
 have x1b := ((blkAt _ _ _ (g := w.heap.size + 1) (by simp)).alloc _).below hb1 (by simp <;> omega)
 have x1c := (blkAt _ _ _ (g := w.heap.size + 1 + 1) (by simp)).below hb1 (by simp)
 have bw1 := (brefl w).trans (q1.mono (brefl w).size)
 have lw1 := hb1.l3
 clear q1
 obtain ⟨cx1ba, cx1bb⟩ := x1b.c2
 have lx1b := lts1 x1b.lt
 go_wp2_with fail
 (with_reducible refine (i_sign_e _ b' A' n' c' (z') (k') ?_ (-1) ?_ ?_).mono ?_); (exact h'); (exact HD.out); (omega); rintro e w2 ⟨rfl, q2⟩
 clear cx1ba cx1bb lx1b
 replace h := h.belw q2
 replace h' := h'.belw q2
 replace x1a := x1a.b q2
 replace x1b := x1b.b q2
 replace x1c := x1c.b q2
 have bw2 := bw1.trans (q2.mono bw1.size)
 have lw2 := q2.size
 clear q2 bw1
 go_wp2_with fail
 have cx1a := x1a.c2
 obtain ⟨cx1ba, cx1bb⟩ := x1b.c2
 go_cut [2] (fun s2 wx => s2 = .pointer (some ⟨w.heap.size, 0, none⟩) ∧ ∃ b8 A8 n8 c8 b9 A9 n9 c9, Blk wx w.heap.size 123 #[.bool b8, .slice A8 n8 c8] ∧ Blk wx (w.heap.size + 1) 123 #[.bool b9, .slice A9 n9 c9] ∧ Blk wx (w.heap.size + 1 + 1) 72 #[.bool false, .slice none 0 0, .slice none 0 0] ∧ IV wx b8 A8 n8 c8 (-z) k ∧ IV wx b9 A9 n9 c9 (-z') k' ∧ Below w.heap.size w wx ∧ w2.heap.size ≤ wx.heap.size)
 case first =>
  go_region_with (first
   | (go_at_call 130; (with_reducible refine (i_neg _ b A n c (z) (k) ?_ ?_).mono ?_); (exact h); (omega); rintro e w3 ⟨b4, A4, n4, c4, rfl, h4, hb4⟩; replace hb4 := bnext (below_drewN (brefl _) 1) hb4; replace h' := h'.belw hb4; have bw4 := bw2.trans (hb4.mono bw2.size); have lw4 := hb4.size; replace x1a := x1a.b hb4; replace x1b := x1b.b hb4; replace x1c := x1c.b hb4; obtain ⟨dx1_1_0, dx1_1_1⟩ := x1b.c2)
   | (go_at_call 130; (with_reducible refine (i_neg _ b' A' n' c' (z') (k') ?_ ?_).mono ?_); (exact h'); (omega); rintro e w4 ⟨b5, A5, n5, c5, rfl, h5, hb5⟩; replace h4 := h4.belw hb5; have bw5 := bw4.trans (hb5.mono bw4.size); have lw5 := hb5.size; replace x1a := x1a.b hb5; replace x1b := x1b.b hb5; replace x1c := x1c.b hb5; obtain ⟨ex1_0_0, ex1_0_1⟩ := x1a.c2; obtain ⟨fx1aa, fx1ab⟩ := x1a.f2; obtain ⟨ex1_1_0, ex1_1_1⟩ := x1b.c2; obtain ⟨fx1ba, fx1bb⟩ := x1b.f2))
  all_goals
   go_wp2_with fail
   go_meet
   have kp := (((((Kp.refl w4).sb w.heap.size 0 x1a.box (by decide) (.bool b4)).sb w.heap.size 1 (x1a.box.set ⟨w.heap.size, 0, none⟩ (.bool b4)) (by decide) (.slice A4 n4 c4)).sb (w.heap.size + 1) 0 ((x1b.box.set ⟨w.heap.size, 0, none⟩ (.bool b4)).set ⟨w.heap.size, 1, none⟩ (.slice A4 n4 c4)) (by decide) (.bool b5)).sb (w.heap.size + 1) 1 (((x1b.box.set ⟨w.heap.size, 0, none⟩ (.bool b4)).set ⟨w.heap.size, 1, none⟩ (.slice A4 n4 c4)).set ⟨w.heap.size + 1, 0, none⟩ (.bool b5)) (by decide) (.slice A5 n5 c5))
   exact ⟨rfl, b4, A4, n4, c4, b5, A5, n5, c5, ((((x1a.set_at 0 (.bool b4) #[.bool b4, .slice A n c] (by simp)).set_at 1 (.slice A4 n4 c4) #[.bool b4, .slice A4 n4 c4] (by simp)).fr (w.heap.size + 1) 0 (by omega) (.bool b5)).fr (w.heap.size + 1) 1 (by omega) (.slice A5 n5 c5)), ((((x1b.fr w.heap.size 0 (by omega) (.bool b4)).fr w.heap.size 1 (by omega) (.slice A4 n4 c4)).set_at 0 (.bool b5) #[.bool b5, .slice A' n' c'] (by simp)).set_at 1 (.slice A5 n5 c5) #[.bool b5, .slice A5 n5 c5] (by simp)), ((((x1c.fr w.heap.size 0 (by omega) (.bool b4)).fr w.heap.size 1 (by omega) (.slice A4 n4 c4)).fr (w.heap.size + 1) 0 (by omega) (.bool b5)).fr (w.heap.size + 1) 1 (by omega) (.slice A5 n5 c5)), h4.keep kp, h5.keep kp, ((((bw5.sc w.heap.size 0 (by omega) (.bool b4)).sc w.heap.size 1 (by omega) (.slice A4 n4 c4)).sc (w.heap.size + 1) 0 (by omega) (.bool b5)).sc (w.heap.size + 1) 1 (by omega) (.slice A5 n5 c5)), by simp [World.setCell]; omega⟩
 case rest =>
  clear h h'
  obtain ⟨rfl, b8, A8, n8, c8, b9, A9, n9, c9, y0, y1, y2, h8, h9, bwc, lwc⟩ := hcut
  clear x1a x1b x1c
  have cy0_0 : wc.cell? ⟨w.heap.size, 0, none⟩ = some (.bool b8) := y0.cell 0
  have cy0_1 : wc.cell? ⟨w.heap.size, 1, none⟩ = some (.slice A8 n8 c8) := y0.cell 1
  obtain ⟨ly0_0, ly0_1, ly0_2, ly0_3⟩ := lts0 y0.lt
  have cy1_0 : wc.cell? ⟨w.heap.size + 1, 0, none⟩ = some (.bool b9) := y1.cell 0
  have cy1_1 : wc.cell? ⟨w.heap.size + 1, 1, none⟩ = some (.slice A9 n9 c9) := y1.cell 1
  obtain ⟨ly1_0, ly1_1, ly1_2, ly1_3⟩ := lts1 y1.lt
  go_wp2_with fail
  (with_reducible refine (i_gcd _ b8 A8 n8 c8 (-z) (k) ?_ b9 A9 n9 c9 (-z') (k') ?_ ?_).mono ?_); (exact h8.iz); (exact h9.iz); (omega); rintro e w13 ⟨b13, A13, n13, c13, rfl, h13, q13⟩
  clear cy0_0 cy0_1 ly0_0 ly0_1 ly0_2 ly0_3 cy1_0 cy1_1 ly1_0 ly1_1 ly1_2 ly1_3
  replace h8 := h8.belw q13
  replace h9 := h9.belw q13
  replace y0 := y0.b q13
  replace y1 := y1.b q13
  replace y2 := y2.b q13
  have bw13 := bwc.trans (q13.mono bwc.size)
  have lw13 := q13.size
  clear q13
  obtain ⟨cy0_0, cy0_1⟩ := y0.c2
  obtain ⟨ly0_0, ly0_1, ly0_2, ly0_3⟩ := lts0 y0.lt
  go_wp2_with fail
  (with_reducible refine (i_sign_e _ b8 A8 n8 c8 (-z) (k) ?_ (-1) ?_ ?_).mono ?_); (exact (h8.belw ((Below.refl _ _).alloc (Nat.le_refl _) _)).iz); (exact HN.out); (omega); rintro e w14 ⟨rfl, hb14⟩
  clear cy0_0 cy0_1 ly0_0 ly0_1 ly0_2 ly0_3
  have q14 := hb14.q1
  replace h8 := h8.belw q14
  replace h9 := h9.belw q14
  replace h13 := h13.belw q14
  replace y0 := y0.b q14
  replace y1 := y1.b q14
  replace y2 := y2.b q14
  have x14a : Blk w14 w13.heap.size 123 #[.bool b13, .slice A13 n13 c13] := (blkAt _ _ _ (by simp)).below hb14 (by simp)
  have bw14 := bw13.trans (q14.mono bw13.size)
  have lw14 := hb14.l1
  clear q14 bw13
  obtain ⟨cy0_0, cy0_1⟩ := y0.c2
  obtain ⟨ly0_0, ly0_1, ly0_2, ly0_3⟩ := lts0 y0.lt
  go_wp2_with fail
  (with_reducible refine (i_neg _ b8 A8 n8 c8 (-z) (k) ?_ ?_).mono ?_); (exact h8.iz); (omega); rintro e w15 ⟨b15, A15, n15, c15, rfl, h15, q15⟩
  clear cy0_0 cy0_1 ly0_0 ly0_1 ly0_2 ly0_3
  replace h8 := h8.belw q15
  replace h9 := h9.belw q15
  replace h13 := h13.belw q15
  replace y0 := y0.b q15
  replace y1 := y1.b q15
  replace y2 := y2.b q15
  replace x14a := x14a.b q15
  have bw15 := bw14.trans (q15.mono bw14.size)
  have lw15 := q15.size
  clear q15 bw14
  obtain ⟨cy0_0, cy0_1⟩ := y0.c2
  obtain ⟨fy0_0, fy0_1⟩ := y0.f2
  obtain ⟨ly0_0, ly0_1, ly0_2, ly0_3⟩ := lts0 y0.lt
  obtain ⟨cx14aa, cx14ab⟩ := x14a.c2
  obtain ⟨lx14aa, lx14ab, lx14ac, lx14ad⟩ := lts0 x14a.lt
  go_wp2_with fail
  clear cy0_0 fy0_0 cy0_1 fy0_1 ly0_0 ly0_1 ly0_2 ly0_3 cx14aa cx14ab lx14aa lx14ab lx14ac lx14ad
  have p16 := (((Kp.refl w15).sb w.heap.size 0 y0.box (by decide) (.bool b15)).sb w.heap.size 1 (y0.box.set ⟨w.heap.size, 0, none⟩ (.bool b15)) (by decide) (.slice A15 n15 c15))
  have bw16 := ((bw15.sc w.heap.size 0 (by omega) (.bool b15)).sc w.heap.size 1 (by omega) (.slice A15 n15 c15))
  replace y0 : Blk ((w15.setCell ⟨w.heap.size, 0, none⟩ (.bool b15)).setCell ⟨w.heap.size, 1, none⟩ (.slice A15 n15 c15)) w.heap.size 123 #[.bool b15, .slice A15 n15 c15] := ((y0.set_at 0 (.bool b15) #[.bool b15, .slice A8 n8 c8] (by simp)).set_at 1 (.slice A15 n15 c15) #[.bool b15, .slice A15 n15 c15] (by simp))
  replace y1 : Blk ((w15.setCell ⟨w.heap.size, 0, none⟩ (.bool b15)).setCell ⟨w.heap.size, 1, none⟩ (.slice A15 n15 c15)) (w.heap.size + 1) 123 #[.bool b9, .slice A9 n9 c9] := ((y1.fr w.heap.size 0 (by omega) (.bool b15)).fr w.heap.size 1 (by omega) (.slice A15 n15 c15))
  replace y2 : Blk ((w15.setCell ⟨w.heap.size, 0, none⟩ (.bool b15)).setCell ⟨w.heap.size, 1, none⟩ (.slice A15 n15 c15)) (w.heap.size + 1 + 1) 72 #[.bool false, .slice none 0 0, .slice none 0 0] := ((y2.fr w.heap.size 0 (by omega) (.bool b15)).fr w.heap.size 1 (by omega) (.slice A15 n15 c15))
  replace x14a := ((x14a.fr w.heap.size 0 (by omega) (.bool b15)).fr w.heap.size 1 (by omega) (.slice A15 n15 c15))
  have lw16 : w15.heap.size + 0 ≤ ((w15.setCell ⟨w.heap.size, 0, none⟩ (.bool b15)).setCell ⟨w.heap.size, 1, none⟩ (.slice A15 n15 c15)).heap.size := by simp
  generalize hE16 : ((w15.setCell ⟨w.heap.size, 0, none⟩ (.bool b15)).setCell ⟨w.heap.size, 1, none⟩ (.slice A15 n15 c15)) = w16 at p16 bw16 lw16 y0 y1 y2 x14a ⊢
  clear hE16
  replace h8 := h8.keep p16
  replace h9 := h9.keep p16
  replace h13 := h13.keep p16
  replace h15 := h15.keep p16
  clear bw15
  (with_reducible refine (i_div _ b15 A15 n15 c15 (-(-z)) ((k)) ?_ b13 A13 n13 c13 ((Nat.gcd ((-z)).natAbs ((-z')).natAbs : Nat)) ((k) + (k')) ?_  ?_ ?_).mono ?_); (exact h15.iz); (exact h13.iz); (omega); (exact HG.out); rintro e w17 ⟨b17, A17, n17, c17, b'17, A'17, n'17, c'17, rfl, h17, h'17, q17⟩
  replace h8 := h8.belw q17
  replace h9 := h9.belw q17
  replace h13 := h13.belw q17
  replace h15 := h15.belw q17
  replace y0 := y0.b q17
  replace y1 := y1.b q17
  replace y2 := y2.b q17
  replace x14a := x14a.b q17
  have bw17 := bw16.trans (q17.mono bw16.size)
  have lw17 := q17.size
  clear q17 bw16
  obtain ⟨cy0_0, cy0_1⟩ := y0.c2
  obtain ⟨fy0_0, fy0_1⟩ := y0.f2
  obtain ⟨ly0_0, ly0_1, ly0_2, ly0_3⟩ := lts0 y0.lt
  obtain ⟨cy1_0, cy1_1⟩ := y1.c2
  obtain ⟨ly1_0, ly1_1, ly1_2, ly1_3⟩ := lts1 y1.lt
  obtain ⟨cx14aa, cx14ab⟩ := x14a.c2
  obtain ⟨lx14aa, lx14ab, lx14ac, lx14ad⟩ := lts0 x14a.lt
  go_wp2_with fail
  clear cy0_0 fy0_0 cy0_1 fy0_1 ly0_0 ly0_1 ly0_2 ly0_3 cy1_0 cy1_1 ly1_0 ly1_1 ly1_2 ly1_3 cx14aa cx14ab lx14aa lx14ab lx14ac lx14ad
  have p18 := (((Kp.refl w17).sb w.heap.size 0 y0.box (by decide) (.bool b17)).sb w.heap.size 1 (y0.box.set ⟨w.heap.size, 0, none⟩ (.bool b17)) (by decide) (.slice A17 n17 c17))
  have bw18 := ((bw17.sc w.heap.size 0 (by omega) (.bool b17)).sc w.heap.size 1 (by omega) (.slice A17 n17 c17))
  replace y0 : Blk ((w17.setCell ⟨w.heap.size, 0, none⟩ (.bool b17)).setCell ⟨w.heap.size, 1, none⟩ (.slice A17 n17 c17)) w.heap.size 123 #[.bool b17, .slice A17 n17 c17] := ((y0.set_at 0 (.bool b17) #[.bool b17, .slice A15 n15 c15] (by simp)).set_at 1 (.slice A17 n17 c17) #[.bool b17, .slice A17 n17 c17] (by simp))
  replace y1 : Blk ((w17.setCell ⟨w.heap.size, 0, none⟩ (.bool b17)).setCell ⟨w.heap.size, 1, none⟩ (.slice A17 n17 c17)) (w.heap.size + 1) 123 #[.bool b9, .slice A9 n9 c9] := ((y1.fr w.heap.size 0 (by omega) (.bool b17)).fr w.heap.size 1 (by omega) (.slice A17 n17 c17))
  replace y2 : Blk ((w17.setCell ⟨w.heap.size, 0, none⟩ (.bool b17)).setCell ⟨w.heap.size, 1, none⟩ (.slice A17 n17 c17)) (w.heap.size + 1 + 1) 72 #[.bool false, .slice none 0 0, .slice none 0 0] := ((y2.fr w.heap.size 0 (by omega) (.bool b17)).fr w.heap.size 1 (by omega) (.slice A17 n17 c17))
  replace x14a := ((x14a.fr w.heap.size 0 (by omega) (.bool b17)).fr w.heap.size 1 (by omega) (.slice A17 n17 c17))
  have lw18 : w17.heap.size + 0 ≤ ((w17.setCell ⟨w.heap.size, 0, none⟩ (.bool b17)).setCell ⟨w.heap.size, 1, none⟩ (.slice A17 n17 c17)).heap.size := by simp
  generalize hE18 : ((w17.setCell ⟨w.heap.size, 0, none⟩ (.bool b17)).setCell ⟨w.heap.size, 1, none⟩ (.slice A17 n17 c17)) = w18 at p18 bw18 lw18 y0 y1 y2 x14a ⊢
  clear hE18
  replace h8 := h8.keep p18
  replace h9 := h9.keep p18
  replace h13 := h13.keep p18
  replace h15 := h15.keep p18
  replace h17 := h17.keep p18
  replace h'17 := h'17.keep p18
  clear bw17
  (with_reducible refine (i_div _ b9 A9 n9 c9 (-z') (k') ?_ b13 A13 n13 c13 ((Nat.gcd ((-z)).natAbs ((-z')).natAbs : Nat)) ((k) + (k')) ?_  ?_ ?_).mono ?_); (exact h9.iz); (exact h13.iz); (omega); (exact HG.out); rintro e w19 ⟨b19, A19, n19, c19, b'19, A'19, n'19, c'19, rfl, h19, h'19, q19⟩
  replace h8 := h8.belw q19
  replace h9 := h9.belw q19
  replace h13 := h13.belw q19
  replace h15 := h15.belw q19
  replace h17 := h17.belw q19
  replace h'17 := h'17.belw q19
  replace y0 := y0.b q19
  replace y1 := y1.b q19
  replace y2 := y2.b q19
  replace x14a := x14a.b q19
  have bw19 := bw18.trans (q19.mono bw18.size)
  have lw19 := q19.size
  clear q19 bw18
  obtain ⟨cy0_0, cy0_1⟩ := y0.c2
  obtain ⟨ly0_0, ly0_1, ly0_2, ly0_3⟩ := lts0 y0.lt
  obtain ⟨cy1_0, cy1_1⟩ := y1.c2
  have fy1 := y1.f2
  obtain ⟨ly1_0, ly1_1, ly1_2, ly1_3⟩ := lts1 y1.lt
  have cy2 := y2.c3
  have fy2 := y2.f3
  have ly2 := lts2 y2.lt
  go_wp2_with fail
  refine bodyPost_ret (v := .agg #[.bool true, .slice A17 n17 c17, .slice A19 n19 c19]) (by simp [results, Tryz.results78, go_sem, *] <;> trivial) rfl ?_
  obtain ⟨e1, e2, e3⟩ := form_neg HN.out HP.out HQ.out
  exact ⟨_, _, _, _, _, _, _, rfl, QV.mk_ (by rw [e1]; exact h17.2.1.keep ((((((Kp.refl w19).sb (w.heap.size + 1) 0 y1.box (by decide) (.bool b19)).sb (w.heap.size + 1) 1 (y1.box.set ⟨w.heap.size + 1, 0, none⟩ (.bool b19)) (by decide) (.slice A19 n19 c19)).sb (w.heap.size + 1 + 1) 0 ((y2.box.set ⟨w.heap.size + 1, 0, none⟩ (.bool b19)).set ⟨w.heap.size + 1, 1, none⟩ (.slice A19 n19 c19)) (by decide) (.bool true)).sb (w.heap.size + 1 + 1) 1 (((y2.box.set ⟨w.heap.size + 1, 0, none⟩ (.bool b19)).set ⟨w.heap.size + 1, 1, none⟩ (.slice A19 n19 c19)).set ⟨w.heap.size + 1 + 1, 0, none⟩ (.bool true)) (by decide) (.slice A17 n17 c17)).sb (w.heap.size + 1 + 1) 2 ((((y2.box.set ⟨w.heap.size + 1, 0, none⟩ (.bool b19)).set ⟨w.heap.size + 1, 1, none⟩ (.slice A19 n19 c19)).set ⟨w.heap.size + 1 + 1, 0, none⟩ (.bool true)).set ⟨w.heap.size + 1 + 1, 1, none⟩ (.slice A17 n17 c17)) (by decide) (.slice A19 n19 c19))) (by rw [e2]; exact h19.2.1.keep ((((((Kp.refl w19).sb (w.heap.size + 1) 0 y1.box (by decide) (.bool b19)).sb (w.heap.size + 1) 1 (y1.box.set ⟨w.heap.size + 1, 0, none⟩ (.bool b19)) (by decide) (.slice A19 n19 c19)).sb (w.heap.size + 1 + 1) 0 ((y2.box.set ⟨w.heap.size + 1, 0, none⟩ (.bool b19)).set ⟨w.heap.size + 1, 1, none⟩ (.slice A19 n19 c19)) (by decide) (.bool true)).sb (w.heap.size + 1 + 1) 1 (((y2.box.set ⟨w.heap.size + 1, 0, none⟩ (.bool b19)).set ⟨w.heap.size + 1, 1, none⟩ (.slice A19 n19 c19)).set ⟨w.heap.size + 1 + 1, 0, none⟩ (.bool true)) (by decide) (.slice A17 n17 c17)).sb (w.heap.size + 1 + 1) 2 ((((y2.box.set ⟨w.heap.size + 1, 0, none⟩ (.bool b19)).set ⟨w.heap.size + 1, 1, none⟩ (.slice A19 n19 c19)).set ⟨w.heap.size + 1 + 1, 0, none⟩ (.bool true)).set ⟨w.heap.size + 1 + 1, 1, none⟩ (.slice A17 n17 c17)) (by decide) (.slice A19 n19 c19))) e3 HS.out, (((((bw19.sc (w.heap.size + 1) 0 (by omega) (.bool b19)).sc (w.heap.size + 1) 1 (by omega) (.slice A19 n19 c19)).sc (w.heap.size + 1 + 1) 0 (by omega) (.bool true)).sc (w.heap.size + 1 + 1) 1 (by omega) (.slice A17 n17 c17)).sc (w.heap.size + 1 + 1) 2 (by omega) (.slice A19 n19 c19))⟩
theorem f_form_nn (w : World) (b A n c z k) (h : IZ w b A n c z k) (b' A' n' c' z' k') (h' : IZ w b' A' n' c' z' k') (q : Rat) (K : Nat) (hz : z.sign = -1) (hd : z'.sign = -1) (hq : Rat.divInt z z' = q) (hs : Sz q K) (hk : k + k' ≤ 300000000) :
  Calls Tryz.prog 78 #[.agg #[.bool b, .slice A n c], .agg #[.bool b', .slice A' n' c']] w (RetF w q K) := by
 have HZ := Lib.hid hz
 have HD := Lib.hid hd
 have HN := Lib.hid (show ((-z)).sign = 1 by rw [Int.sign_neg, hz] <;> rfl)
 have HP := Lib.hid (show 0 < (-z') by exact sign_neg_ hd)
 have HG := Lib.hid (show ((Nat.gcd ((-z)).natAbs ((-z')).natAbs : Nat) : Int) ≠ 0 from gcd_ne HP.out)
 have HQ := Lib.hid (show Rat.divInt (-z) (-z') = q by rw [divInt_neg_neg _ _ (sign_ne hd)]; exact hq)
 have HS := Lib.hid hs
 clear hz hd hq hs
 go_enter Tryz.func78, Tryz.ntmps78
 go_wp2_with fail
 (with_reducible refine (i_sign_e _ b A n c (z) (k) ?_ (-1) ?_ ?_).mono ?_); (exact (h.belw ((((Below.refl _ _).alloc (Nat.le_refl _) _).alloc (by simp) _).alloc (by simp <;> omega) _))); (exact HZ.out); (omega); rintro e w1 ⟨rfl, hb1⟩
 have q1 := hb1.q3
 replace h := h.belw q1
 replace h' := h'.belw q1
 have x1a : Blk w1 w.heap.size 123 #[.bool b, .slice A n c] := (((blkAt _ _ _ (by simp)).alloc _).alloc _).below hb1 (by simp <;> omega)
 have x1b := ((blkAt _ _ _ (g := w.heap.size + 1) (by simp)).alloc _).below hb1 (by simp <;> omega)
 have x1c := (blkAt _ _ _ (g := w.heap.size + 1 + 1) (by simp)).below hb1 (by simp)
 have bw1 := (brefl w).trans (q1.mono (brefl w).size)
 have lw1 := hb1.l3
 clear q1
 obtain ⟨cx1ba, cx1bb⟩ := x1b.c2
 have lx1b := lts1 x1b.lt
 go_wp2_with fail
 (with_reducible refine (i_sign_e _ b' A' n' c' (z') (k') ?_ (-1) ?_ ?_).mono ?_); (exact h'); (exact HD.out); (omega); rintro e w2 ⟨rfl, q2⟩
 clear cx1ba cx1bb lx1b
 replace h := h.belw q2
 replace h' := h'.belw q2
 replace x1a := x1a.b q2
 replace x1b := x1b.b q2
 replace x1c := x1c.b q2
 have bw2 := bw1.trans (q2.mono bw1.size)
 have lw2 := q2.size
 clear q2 bw1
 go_wp2_with fail
 have cx1a := x1a.c2
 obtain ⟨cx1ba, cx1bb⟩ := x1b.c2
 go_cut [2] (fun s2 wx => s2 = .pointer (some ⟨w.heap.size, 0, none⟩) ∧ ∃ b8 A8 n8 c8 b9 A9 n9 c9, Blk wx w.heap.size 123 #[.bool b8, .slice A8 n8 c8] ∧ Blk wx (w.heap.size + 1) 123 #[.bool b9, .slice A9 n9 c9] ∧ Blk wx (w.heap.size + 1 + 1) 72 #[.bool false, .slice none 0 0, .slice none 0 0] ∧ IV wx b8 A8 n8 c8 (-z) k ∧ IV wx b9 A9 n9 c9 (-z') k' ∧ Below w.heap.size w wx ∧ w2.heap.size ≤ wx.heap.size)
 case first =>
  go_region_with (first
   | (go_at_call 130; (with_reducible refine (i_neg _ b A n c (z) (k) ?_ ?_).mono ?_); (exact h); (omega); rintro e w3 ⟨b4, A4, n4, c4, rfl, h4, hb4⟩; replace hb4 := bnext (below_drewN (brefl _) 1) hb4; replace h' := h'.belw hb4; have bw4 := bw2.trans (hb4.mono bw2.size); have lw4 := hb4.size; replace x1a := x1a.b hb4; replace x1b := x1b.b hb4; replace x1c := x1c.b hb4; obtain ⟨dx1_1_0, dx1_1_1⟩ := x1b.c2)
   | (go_at_call 130; (with_reducible refine (i_neg _ b' A' n' c' (z') (k') ?_ ?_).mono ?_); (exact h'); (omega); rintro e w4 ⟨b5, A5, n5, c5, rfl, h5, hb5⟩; replace h4 := h4.belw hb5; have bw5 := bw4.trans (hb5.mono bw4.size); have lw5 := hb5.size; replace x1a := x1a.b hb5; replace x1b := x1b.b hb5; replace x1c := x1c.b hb5; obtain ⟨ex1_0_0, ex1_0_1⟩ := x1a.c2; obtain ⟨fx1aa, fx1ab⟩ := x1a.f2; obtain ⟨ex1_1_0, ex1_1_1⟩ := x1b.c2; obtain ⟨fx1ba, fx1bb⟩ := x1b.f2))
  all_goals
   go_wp2_with fail
   go_meet
   have kp := (((((Kp.refl w4).sb w.heap.size 0 x1a.box (by decide) (.bool b4)).sb w.heap.size 1 (x1a.box.set ⟨w.heap.size, 0, none⟩ (.bool b4)) (by decide) (.slice A4 n4 c4)).sb (w.heap.size + 1) 0 ((x1b.box.set ⟨w.heap.size, 0, none⟩ (.bool b4)).set ⟨w.heap.size, 1, none⟩ (.slice A4 n4 c4)) (by decide) (.bool b5)).sb (w.heap.size + 1) 1 (((x1b.box.set ⟨w.heap.size, 0, none⟩ (.bool b4)).set ⟨w.heap.size, 1, none⟩ (.slice A4 n4 c4)).set ⟨w.heap.size + 1, 0, none⟩ (.bool b5)) (by decide) (.slice A5 n5 c5))
   exact ⟨rfl, b4, A4, n4, c4, b5, A5, n5, c5, ((((x1a.set_at 0 (.bool b4) #[.bool b4, .slice A n c] (by simp)).set_at 1 (.slice A4 n4 c4) #[.bool b4, .slice A4 n4 c4] (by simp)).fr (w.heap.size + 1) 0 (by omega) (.bool b5)).fr (w.heap.size + 1) 1 (by omega) (.slice A5 n5 c5)), ((((x1b.fr w.heap.size 0 (by omega) (.bool b4)).fr w.heap.size 1 (by omega) (.slice A4 n4 c4)).set_at 0 (.bool b5) #[.bool b5, .slice A' n' c'] (by simp)).set_at 1 (.slice A5 n5 c5) #[.bool b5, .slice A5 n5 c5] (by simp)), ((((x1c.fr w.heap.size 0 (by omega) (.bool b4)).fr w.heap.size 1 (by omega) (.slice A4 n4 c4)).fr (w.heap.size + 1) 0 (by omega) (.bool b5)).fr (w.heap.size + 1) 1 (by omega) (.slice A5 n5 c5)), h4.keep kp, h5.keep kp, ((((bw5.sc w.heap.size 0 (by omega) (.bool b4)).sc w.heap.size 1 (by omega) (.slice A4 n4 c4)).sc (w.heap.size + 1) 0 (by omega) (.bool b5)).sc (w.heap.size + 1) 1 (by omega) (.slice A5 n5 c5)), by simp [World.setCell]; omega⟩
 case rest =>
  clear h h'
  obtain ⟨rfl, b8, A8, n8, c8, b9, A9, n9, c9, y0, y1, y2, h8, h9, bwc, lwc⟩ := hcut
  clear x1a x1b x1c
  obtain ⟨cy0_0, cy0_1⟩ := y0.c2
  obtain ⟨ly0_0, ly0_1, ly0_2, ly0_3⟩ := lts0 y0.lt
  obtain ⟨cy1_0, cy1_1⟩ := y1.c2
  obtain ⟨ly1_0, ly1_1, ly1_2, ly1_3⟩ := lts1 y1.lt
  go_wp2_with fail
  (with_reducible refine (i_gcd _ b8 A8 n8 c8 (-z) (k) ?_ b9 A9 n9 c9 (-z') (k') ?_ ?_).mono ?_); (exact h8.iz); (exact h9.iz); (omega); rintro e w13 ⟨b13, A13, n13, c13, rfl, h13, q13⟩
  clear cy0_0 cy0_1 ly0_0 ly0_1 ly0_2 ly0_3 cy1_0 cy1_1 ly1_0 ly1_1 ly1_2 ly1_3
  replace h8 := h8.belw q13
  replace h9 := h9.belw q13
  replace y0 := y0.b q13
  replace y1 := y1.b q13
  replace y2 := y2.b q13
  have bw13 := bwc.trans (q13.mono bwc.size)
  have lw13 := q13.size
  clear q13
  obtain ⟨cy0_0, cy0_1⟩ := y0.c2
  obtain ⟨ly0_0, ly0_1, ly0_2, ly0_3⟩ := lts0 y0.lt
  go_wp2_with fail
  (with_reducible refine (i_sign_e _ b8 A8 n8 c8 (-z) (k) ?_ (1) ?_ ?_).mono ?_); (exact (h8.belw ((Below.refl _ _).alloc (Nat.le_refl _) _)).iz); (exact HN.out); (omega); rintro e w14 ⟨rfl, hb14⟩
  clear cy0_0 cy0_1 ly0_0 ly0_1 ly0_2 ly0_3
  have q14 := hb14.q1
  replace h8 := h8.belw q14
  replace h9 := h9.belw q14
  replace h13 := h13.belw q14
  replace y0 := y0.b q14
  replace y1 := y1.b q14
  replace y2 := y2.b q14
  have x14a : Blk w14 w13.heap.size 123 #[.bool b13, .slice A13 n13 c13] := (blkAt _ _ _ (by simp)).below hb14 (by simp)
  have bw14 := bw13.trans (q14.mono bw13.size)
  have lw14 := hb14.l1
  clear q14 bw13
  obtain ⟨cy0_0, cy0_1⟩ := y0.c2
  obtain ⟨ly0_0, ly0_1, ly0_2, ly0_3⟩ := lts0 y0.lt
  obtain ⟨cx14aa, cx14ab⟩ := x14a.c2
  obtain ⟨lx14aa, lx14ab, lx14ac, lx14ad⟩ := lts0 x14a.lt
  go_wp2_with fail
  (with_reducible refine (i_div _ b8 A8 n8 c8 (-z) (k) ?_ b13 A13 n13 c13 ((Nat.gcd ((-z)).natAbs ((-z')).natAbs : Nat)) ((k) + (k')) ?_  ?_ ?_).mono ?_); (exact h8.iz); (exact h13.iz); (omega); (exact HG.out); rintro e w15 ⟨b15, A15, n15, c15, b'15, A'15, n'15, c'15, rfl, h15, h'15, q15⟩
  clear cy0_0 cy0_1 ly0_0 ly0_1 ly0_2 ly0_3 cx14aa cx14ab lx14aa lx14ab lx14ac lx14ad
  replace h8 := h8.belw q15
  replace h9 := h9.belw q15
  replace h13 := h13.belw q15
  replace y0 := y0.b q15
  replace y1 := y1.b q15
  replace y2 := y2.b q15
  replace x14a := x14a.b q15
  have bw15 := bw14.trans (q15.mono bw14.size)
  have lw15 := q15.size
  clear q15 bw14
  obtain ⟨cy0_0, cy0_1⟩ := y0.c2
  have fy0 := y0.f2
  obtain ⟨ly0_0, ly0_1, ly0_2, ly0_3⟩ := lts0 y0.lt
  obtain ⟨cy1_0, cy1_1⟩ := y1.c2
  obtain ⟨ly1_0, ly1_1, ly1_2, ly1_3⟩ := lts1 y1.lt
  obtain ⟨cx14aa, cx14ab⟩ := x14a.c2
  obtain ⟨lx14aa, lx14ab, lx14ac, lx14ad⟩ := lts0 x14a.lt
  go_wp2_with fail
  clear cy0_0 fy0 cy0_1 ly0_0 ly0_1 ly0_2 ly0_3 cy1_0 cy1_1 ly1_0 ly1_1 ly1_2 ly1_3 cx14aa cx14ab lx14aa lx14ab lx14ac lx14ad
  have p16 := (((Kp.refl w15).sb w.heap.size 0 y0.box (by decide) (.bool b15)).sb w.heap.size 1 (y0.box.set ⟨w.heap.size, 0, none⟩ (.bool b15)) (by decide) (.slice A15 n15 c15))
  have bw16 := ((bw15.sc w.heap.size 0 (by omega) (.bool b15)).sc w.heap.size 1 (by omega) (.slice A15 n15 c15))
  replace y0 : Blk ((w15.setCell ⟨w.heap.size, 0, none⟩ (.bool b15)).setCell ⟨w.heap.size, 1, none⟩ (.slice A15 n15 c15)) w.heap.size 123 #[.bool b15, .slice A15 n15 c15] := ((y0.set_at 0 (.bool b15) #[.bool b15, .slice A8 n8 c8] (by simp)).set_at 1 (.slice A15 n15 c15) #[.bool b15, .slice A15 n15 c15] (by simp))
  replace y1 : Blk ((w15.setCell ⟨w.heap.size, 0, none⟩ (.bool b15)).setCell ⟨w.heap.size, 1, none⟩ (.slice A15 n15 c15)) (w.heap.size + 1) 123 #[.bool b9, .slice A9 n9 c9] := ((y1.fr w.heap.size 0 (by omega) (.bool b15)).fr w.heap.size 1 (by omega) (.slice A15 n15 c15))
  replace y2 : Blk ((w15.setCell ⟨w.heap.size, 0, none⟩ (.bool b15)).setCell ⟨w.heap.size, 1, none⟩ (.slice A15 n15 c15)) (w.heap.size + 1 + 1) 72 #[.bool false, .slice none 0 0, .slice none 0 0] := ((y2.fr w.heap.size 0 (by omega) (.bool b15)).fr w.heap.size 1 (by omega) (.slice A15 n15 c15))
  replace x14a := ((x14a.fr w.heap.size 0 (by omega) (.bool b15)).fr w.heap.size 1 (by omega) (.slice A15 n15 c15))
  have lw16 : w15.heap.size + 0 ≤ ((w15.setCell ⟨w.heap.size, 0, none⟩ (.bool b15)).setCell ⟨w.heap.size, 1, none⟩ (.slice A15 n15 c15)).heap.size := by simp
  generalize hE16 : ((w15.setCell ⟨w.heap.size, 0, none⟩ (.bool b15)).setCell ⟨w.heap.size, 1, none⟩ (.slice A15 n15 c15)) = w16 at p16 bw16 lw16 y0 y1 y2 x14a ⊢
  clear hE16
  replace h8 := h8.keep p16
  replace h9 := h9.keep p16
  replace h13 := h13.keep p16
  replace h15 := h15.keep p16
  replace h'15 := h'15.keep p16
  clear bw15
  (with_reducible refine (i_div _ b9 A9 n9 c9 (-z') (k') ?_ b13 A13 n13 c13 ((Nat.gcd ((-z)).natAbs ((-z')).natAbs : Nat)) ((k) + (k')) ?_  ?_ ?_).mono ?_); (exact h9.iz); (exact h13.iz); (omega); (exact HG.out); rintro e w17 ⟨b17, A17, n17, c17, b'17, A'17, n'17, c'17, rfl, h17, h'17, q17⟩
  replace h8 := h8.belw q17
  replace h9 := h9.belw q17
  replace h13 := h13.belw q17
  replace h15 := h15.belw q17
  replace h'15 := h'15.belw q17
  replace y0 := y0.b q17
  replace y1 := y1.b q17
  replace y2 := y2.b q17
  replace x14a := x14a.b q17
  have bw17 := bw16.trans (q17.mono bw16.size)
  have lw17 := q17.size
  clear q17 bw16
  obtain ⟨cy0_0, cy0_1⟩ := y0.c2
  obtain ⟨ly0_0, ly0_1, ly0_2, ly0_3⟩ := lts0 y0.lt
  obtain ⟨cy1_0, cy1_1⟩ := y1.c2
  have fy1 := y1.f2
  obtain ⟨ly1_0, ly1_1, ly1_2, ly1_3⟩ := lts1 y1.lt
  have cy2 := y2.c3
  have fy2 := y2.f3
  have ly2 := lts2 y2.lt
  go_wp2_with fail
  refine bodyPost_ret (v := .agg #[.bool false, .slice A15 n15 c15, .slice A17 n17 c17]) (by simp [results, Tryz.results78, go_sem, *] <;> trivial) rfl ?_
  obtain ⟨e1, e2, e3⟩ := form_pos HN.out HP.out HQ.out
  exact ⟨_, _, _, _, _, _, _, rfl, QV.mk_ (by rw [e1]; exact h15.2.1.keep ((((((Kp.refl w17).sb (w.heap.size + 1) 0 y1.box (by decide) (.bool b17)).sb (w.heap.size + 1) 1 (y1.box.set ⟨w.heap.size + 1, 0, none⟩ (.bool b17)) (by decide) (.slice A17 n17 c17)).sb (w.heap.size + 1 + 1) 0 ((y2.box.set ⟨w.heap.size + 1, 0, none⟩ (.bool b17)).set ⟨w.heap.size + 1, 1, none⟩ (.slice A17 n17 c17)) (by decide) (.bool false)).sb (w.heap.size + 1 + 1) 1 (((y2.box.set ⟨w.heap.size + 1, 0, none⟩ (.bool b17)).set ⟨w.heap.size + 1, 1, none⟩ (.slice A17 n17 c17)).set ⟨w.heap.size + 1 + 1, 0, none⟩ (.bool false)) (by decide) (.slice A15 n15 c15)).sb (w.heap.size + 1 + 1) 2 ((((y2.box.set ⟨w.heap.size + 1, 0, none⟩ (.bool b17)).set ⟨w.heap.size + 1, 1, none⟩ (.slice A17 n17 c17)).set ⟨w.heap.size + 1 + 1, 0, none⟩ (.bool false)).set ⟨w.heap.size + 1 + 1, 1, none⟩ (.slice A15 n15 c15)) (by decide) (.slice A17 n17 c17))) (by rw [e2]; exact h17.2.1.keep ((((((Kp.refl w17).sb (w.heap.size + 1) 0 y1.box (by decide) (.bool b17)).sb (w.heap.size + 1) 1 (y1.box.set ⟨w.heap.size + 1, 0, none⟩ (.bool b17)) (by decide) (.slice A17 n17 c17)).sb (w.heap.size + 1 + 1) 0 ((y2.box.set ⟨w.heap.size + 1, 0, none⟩ (.bool b17)).set ⟨w.heap.size + 1, 1, none⟩ (.slice A17 n17 c17)) (by decide) (.bool false)).sb (w.heap.size + 1 + 1) 1 (((y2.box.set ⟨w.heap.size + 1, 0, none⟩ (.bool b17)).set ⟨w.heap.size + 1, 1, none⟩ (.slice A17 n17 c17)).set ⟨w.heap.size + 1 + 1, 0, none⟩ (.bool false)) (by decide) (.slice A15 n15 c15)).sb (w.heap.size + 1 + 1) 2 ((((y2.box.set ⟨w.heap.size + 1, 0, none⟩ (.bool b17)).set ⟨w.heap.size + 1, 1, none⟩ (.slice A17 n17 c17)).set ⟨w.heap.size + 1 + 1, 0, none⟩ (.bool false)).set ⟨w.heap.size + 1 + 1, 1, none⟩ (.slice A15 n15 c15)) (by decide) (.slice A17 n17 c17))) e3 HS.out, (((((bw17.sc (w.heap.size + 1) 0 (by omega) (.bool b17)).sc (w.heap.size + 1) 1 (by omega) (.slice A17 n17 c17)).sc (w.heap.size + 1 + 1) 0 (by omega) (.bool false)).sc (w.heap.size + 1 + 1) 1 (by omega) (.slice A15 n15 c15)).sc (w.heap.size + 1 + 1) 2 (by omega) (.slice A17 n17 c17))⟩
theorem f_form (w : World) (b A n c z k) (h : IZ w b A n c z k) (b' A' n' c' z' k') (h' : IZ w b' A' n' c' z' k') (q : Rat) (K : Nat) (hd : z' ≠ 0) (hq : Rat.divInt z z' = q) (hs : Sz q K) (hk : k + k' ≤ 300000000) :
    Calls Tryz.prog 78 #[.agg #[.bool b, .slice A n c], .agg #[.bool b', .slice A' n' c']] w (RetF w q K) := by
  rcases sign3 z with s | s | s
  · rw [← hq, s, Rat.zero_divInt]; exact f_form_0 w b A n c z k h b' A' n' c' z' k' h' K s hk
  · rcases sign3 z' with t | t | t
    · exact absurd t hd
    · exact f_form_pp w b A n c z k h b' A' n' c' z' k' h' q K s t hq hs hk
    · exact f_form_np w b A n c z k h b' A' n' c' z' k' h' q K s t hq hs hk
  · rcases sign3 z' with t | t | t
    · exact absurd t hd
    · exact f_form_pn w b A n c z k h b' A' n' c' z' k' h' q K s t hq hs hk
    · exact f_form_nn w b A n c z k h b' A' n' c' z' k' h' q K s t hq hs hk
end Go.Proofs.YtoiijifnfdgfpaaGreatDoor

/- Walks: fractions: what is valid, the parts. -/
namespace Go.Proofs.YtoiijifnfdgfpaaGreatDoor
open Go Go.RowKit Bn
attribute [local go_sem ↓] Go.wp_at_zero Go.wp_at_succ

section
variable {w : World} {b : Bool} {A : Option Addr} {n c : Nat} {D : Option Addr} {m e : Nat} {a : RD} {k : Nat} (h : QD w b A n c D m e a k)
include h
theorem ok_00 (h1 : n = 0) (h2 : m = 0) : a.ok = !b := by
  have e1 : a.num = [] := List.eq_nil_of_length_eq_zero (by rw [← h.2.1.2.1, h1])
  have e2 : a.den = [] := List.eq_nil_of_length_eq_zero (by rw [← h.2.2.1.2.1, h2])
  unfold RD.ok
  rw [if_pos ⟨e1, e2⟩, h.1]
theorem QD.num_ne (h1 : 0 < n) : a.num ≠ [] := by intro e; have := h.2.1.2.1; rw [e] at this; simp at this; omega
theorem QD.den_ne_ (h1 : 0 < m) : a.den ≠ [] := by intro e; have := h.2.2.1.2.1; rw [e] at this; simp at this; omega
theorem ok_01 (h1 : n = 0) (h2 : 0 < m) : a.ok = false := by
  have e1 : a.num = [] := List.eq_nil_of_length_eq_zero (by rw [← h.2.1.2.1, h1])
  unfold RD.ok
  rw [if_neg (by intro x; exact h.den_ne_ h2 x.2)]; simp [e1]
theorem ok_02 (h1 : 0 < n) (h2 : m = 0) : a.ok = false := by
  have e2 : a.den = [] := List.eq_nil_of_length_eq_zero (by rw [← h.2.2.1.2.1, h2])
  unfold RD.ok
  rw [if_neg (by intro x; exact h.num_ne h1 x.1)]; simp [e2]
omit h in
theorem wdok_ {l : List Nat} (hl : l ≠ []) : WD.ok ⟨false, l⟩ = last0 l := by unfold WD.ok last0; simp [hl]
theorem ok_pos (h1 : 0 < n) (h2 : 0 < m) : a.ok = (WD.ok ⟨false, a.num⟩ && WD.ok ⟨false, a.den⟩ && Nat.gcd (val a.num) (val a.den) == 1) := by
  have e1 := h.num_ne h1
  have e2 := h.den_ne_ h2
  unfold RD.ok
  have f1 : (a.num != []) = true := bne_iff_ne.2 e1
  have f2 : (a.den != []) = true := bne_iff_ne.2 e2
  rw [if_neg (by intro x; exact e1 x.1), wdok_ e1, wdok_ e2, f1, f2]
  rfl
theorem ok_3 (h1 : 0 < n) (h2 : 0 < m) (h3 : WD.ok ⟨false, a.num⟩ = false) : a.ok = false := by rw [ok_pos h h1 h2, h3]; rfl
theorem ok_4 (h1 : 0 < n) (h2 : 0 < m) (h3 : WD.ok ⟨false, a.num⟩ = true) (h4 : WD.ok ⟨false, a.den⟩ = false) : a.ok = false := by rw [ok_pos h h1 h2, h3, h4]; rfl
theorem ok_5 (h1 : 0 < n) (h2 : 0 < m) (h3 : WD.ok ⟨false, a.num⟩ = true) (h4 : WD.ok ⟨false, a.den⟩ = true) : a.ok = (Nat.gcd (val a.num) (val a.den) == 1) := by rw [ok_pos h h1 h2, h3, h4]; rfl
theorem QD.num_z (hk : WD.ok ⟨false, a.num⟩ = true) : IZ w false A n c (val a.num : Int) k := ⟨_, h.2.1, by simp [WD.z, hk], h.2.2.2.1⟩
theorem QD.den_z (hk : WD.ok ⟨false, a.den⟩ = true) : IZ w false D m e (val a.den : Int) k := ⟨_, h.2.2.1, by simp [WD.z, hk], h.2.2.2.2⟩
end
theorem ok_last {x y : Nat} {s : Int} {r : Bool} (hc : cmpI ((Nat.gcd ((x : Int)).natAbs ((y : Int)).natAbs : Nat)) 1 = s) (hr : r = (Nat.gcd x y == 1)) : (s == 0) = r := by
  subst hc hr
  simp only [Int.natAbs_natCast]
  generalize Nat.gcd x y = g
  unfold cmpI
  by_cases h1 : g = 1
  · subst h1; rfl
  · by_cases h2 : g < 1
    · have : g = 0 := by omega
      subst this; rfl
    · have h3 : ¬ ((g : Int) < 1) := by omega
      have h4 : ¬ ((g : Int) = 1) := by omega
      simp [h1, h3, h4]
theorem i_valid_e (w : World) (b : Bool) (A : Option Addr) (n c : Nat) (v : Bool) (l : List Nat) (h : Wd w A n c l) (hv : WD.ok ⟨b, l⟩ = v) (hn : n ≤ 1000000000) :
    Calls Tryz.prog 70 #[.agg #[.bool b, .slice A n c]] w (RetV w (.bool v)) := by subst hv; exact valid_c w b A n c l h (by omega)
theorem i_cmp_e (w : World) (b A n c z k) (h : IZ w b A n c z k) (b' A' n' c' z' k') (h' : IZ w b' A' n' c' z' k') (s : Int) (hs : cmpI z z' = s) (hk : k + k' ≤ 1000000000) :
    Calls Tryz.prog 71 #[.agg #[.bool b, .slice A n c], .agg #[.bool b', .slice A' n' c']] w (RetV w (.int .i64 s)) := by subst hs; exact i_cmp w b A n c z k h b' A' n' c' z' k' h' hk
theorem f_one (w : World)  :
  Calls Tryz.prog 73 #[] w (RetI w 1 1) := by
 go_enter Tryz.func73, Tryz.ntmps73
 go_wp2_with fail
 (with_reducible refine (i_of1 _ (1) ?_ ?_).mono ?_); (omega); (omega); rintro e w1 ⟨b1, A1, n1, c1, rfl, h1, hb1⟩
 have q1 := hb1.q1
 have x1a : Blk w1 w.heap.size 123 #[.bool false, .slice none 0 0] := (blkAt _ _ _ (by simp)).below hb1 (by simp)
 have bw1 := (brefl w).trans (q1.mono (brefl w).size)
 have lw1 := hb1.l1
 clear q1
 have cx1a := x1a.c2
 have fx1a := x1a.f2
 have lx1a := lts0 x1a.lt
 go_wp2_with fail
 refine bodyPost_ret (v := .agg #[.bool b1, .slice A1 n1 c1]) (by simp [results, Tryz.results73, go_sem, *] <;> trivial) rfl ?_
 exact ⟨b1, A1, n1, c1, rfl, h1.keep (((Kp.refl w1).sb w.heap.size 0 x1a.box (by decide) (.bool b1)).sb w.heap.size 1 (x1a.box.set ⟨w.heap.size, 0, none⟩ (.bool b1)) (by decide) (.slice A1 n1 c1)), ((bw1.sc w.heap.size 0 (by omega) (.bool b1)).sc w.heap.size 1 (by omega) (.slice A1 n1 c1))⟩
theorem f_valid_0 (w : World) (b A n c D m e a k) (h : QD w b A n c D m e a k) (hk : k ≤ 300000000) (h1 : n = 0) (h2 : m = 0) :
  Calls Tryz.prog 33 #[.agg #[.bool b, .slice A n c, .slice D m e]] w (RetV w (.bool a.ok)) := by
 have HR := Lib.hid (show a.ok = !b from ok_00 h h1 h2)
 have HK := Lib.hid hk
 subst h1 h2
 clear h hk
 go_enter Tryz.func33, Tryz.ntmps33
 go_wp2
 go_ret
 exact retB (by rw [HR.out]) ((Below.refl _ _).alloc (Nat.le_refl _) _)
theorem f_valid_1 (w : World) (b A n c D m e a k) (h : QD w b A n c D m e a k) (hk : k ≤ 300000000) (h1 : n = 0) (h2 : 0 < m) :
  Calls Tryz.prog 33 #[.agg #[.bool b, .slice A n c, .slice D m e]] w (RetV w (.bool a.ok)) := by
 have HR := Lib.hid (show a.ok = false from ok_01 h h1 h2)
 have HK := Lib.hid hk
 have e1 : ((n : Int) == 0) = true := by simp [h1]
 have e2 : ((m : Int) == 0) = false := by simp; omega
 clear h1 h2 hk
 go_enter Tryz.func33, Tryz.ntmps33
 go_wp2_with fail
 have p1 := ((Kp.refl w).alloc (.cells #[.bool b, .slice A n c, .slice D m e] 72))
 have bw1 := ((brefl w).alloc (by first | omega | (simp <;> omega)) (.cells #[.bool b, .slice A n c, .slice D m e] 72))
 have x1a : Blk (w.alloc (.cells #[.bool b, .slice A n c, .slice D m e] 72)) w.heap.size 72 #[.bool b, .slice A n c, .slice D m e] := (blkAt _ _ _ (by simp))
 have lw1 : w.heap.size + 1 ≤ (w.alloc (.cells #[.bool b, .slice A n c, .slice D m e] 72)).heap.size := by simp
 generalize hE1 : (w.alloc (.cells #[.bool b, .slice A n c, .slice D m e] 72)) = w1 at p1 bw1 lw1 x1a ⊢
 clear hE1
 replace h := h.keep p1
 have cx1a := x1a.c3
 have lx1a := lts0 x1a.lt
 go_cut [3, 4] (fun s3 s4 wx => ∃ g3 g4, s3 = .pointer (some ⟨g3, 0, none⟩) ∧ s4 = .pointer (some ⟨g4, 0, none⟩) ∧ Blk wx g3 123 #[.bool false, .slice A n c] ∧ Blk wx g4 123 #[.bool false, .slice D m e] ∧ Blk wx w.heap.size 72 #[.bool b, .slice A n c, .slice D m e] ∧ Below w1.heap.size w1 wx)
 case first =>
  go_region_held3 (fun w' => Sees w1.heap.size w1 w') (first | exact Sees.of (Nat.le_refl _) (below_drewN (brefl _) 1) | exact Sees.of (Nat.le_refl _) ((below_drewN (brefl _) 1).alloc (Nat.le_refl _) _) | exact Sees.of (Nat.le_refl _) (((below_drewN (brefl _) 1).alloc (Nat.le_refl _) _).alloc (by simp) _) | exact Sees.of (Nat.le_refl _) ((((below_drewN (brefl _) 1).alloc (Nat.le_refl _) _).alloc (by simp) _).setCell (by simp) _)) (fail)
  all_goals
   go_wp2_with fail
   go_meet
   first
    | exact ⟨_, _, rfl, rfl, ((blkAt _ _ _ rfl).alloc _).drew, (blkAt _ _ _ (by simp)).drew, ((x1a.alloc _).alloc _).drew, ((((Below.refl _ _).alloc (Nat.le_refl _) _).alloc (by simp) _).drew)⟩
    | exact ⟨_, _, rfl, rfl, (blkAt _ _ _ (by simp)).drew, ((blkAt _ _ _ rfl).alloc _).drew, ((x1a.alloc _).alloc _).drew, ((((Below.refl _ _).alloc (Nat.le_refl _) _).alloc (by simp) _).drew)⟩
 case rest =>
  clear cx1a lx1a
  obtain ⟨g3, g4, rfl, rfl, y3, y4, y1, q1⟩ := hcut
  replace h := h.belw q1
  have bwc : Below w.heap.size w wc := bw1.trans (q1.mono bw1.size)
  clear x1a bw1
  have cy1_0 : wc.cell? ⟨w.heap.size, 0, none⟩ = some (.bool b) := y1.cell 0
  have cy1_1 : wc.cell? ⟨w.heap.size, 1, none⟩ = some (.slice A n c) := y1.cell 1
  have cy1_2 : wc.cell? ⟨w.heap.size, 2, none⟩ = some (.slice D m e) := y1.cell 2
  have ly1 := lts0 y1.lt
  go_wp2
  go_ret
  exact retB HR.out.symm bwc
theorem f_valid_2 (w : World) (b A n c D m e a k) (h : QD w b A n c D m e a k) (hk : k ≤ 300000000) (h1 : 0 < n) (h2 : m = 0) :
  Calls Tryz.prog 33 #[.agg #[.bool b, .slice A n c, .slice D m e]] w (RetV w (.bool a.ok)) := by
 have HR := Lib.hid (show a.ok = false from ok_02 h h1 h2)
 have HK := Lib.hid hk
 have e1 : ((n : Int) == 0) = false := by simp; omega
 have e2 : ((m : Int) == 0) = true := by simp [h2]
 clear h1 h2 hk
 go_enter Tryz.func33, Tryz.ntmps33
 go_wp2_with fail
 have p1 := ((Kp.refl w).alloc (.cells #[.bool b, .slice A n c, .slice D m e] 72))
 have bw1 := ((brefl w).alloc (by first | omega | (simp <;> omega)) (.cells #[.bool b, .slice A n c, .slice D m e] 72))
 have x1a : Blk (w.alloc (.cells #[.bool b, .slice A n c, .slice D m e] 72)) w.heap.size 72 #[.bool b, .slice A n c, .slice D m e] := (blkAt _ _ _ (by simp))
 have lw1 : w.heap.size + 1 ≤ (w.alloc (.cells #[.bool b, .slice A n c, .slice D m e] 72)).heap.size := by simp
 generalize hE1 : (w.alloc (.cells #[.bool b, .slice A n c, .slice D m e] 72)) = w1 at p1 bw1 lw1 x1a ⊢
 clear hE1
 replace h := h.keep p1
 have cx1a := x1a.c3
 have lx1a := lts0 x1a.lt
 go_cut [3, 4] (fun s3 s4 wx => ∃ g3 g4, s3 = .pointer (some ⟨g3, 0, none⟩) ∧ s4 = .pointer (some ⟨g4, 0, none⟩) ∧ Blk wx g3 123 #[.bool false, .slice A n c] ∧ Blk wx g4 123 #[.bool false, .slice D m e] ∧ Blk wx w.heap.size 72 #[.bool b, .slice A n c, .slice D m e] ∧ Below w1.heap.size w1 wx)
 case first =>
  go_region_held3 (fun w' => Sees w1.heap.size w1 w') (first | exact Sees.of (Nat.le_refl _) (below_drewN (brefl _) 1) | exact Sees.of (Nat.le_refl _) ((below_drewN (brefl _) 1).alloc (Nat.le_refl _) _) | exact Sees.of (Nat.le_refl _) (((below_drewN (brefl _) 1).alloc (Nat.le_refl _) _).alloc (by simp) _) | exact Sees.of (Nat.le_refl _) ((((below_drewN (brefl _) 1).alloc (Nat.le_refl _) _).alloc (by simp) _).setCell (by simp) _)) (fail)
  all_goals
   go_wp2_with fail
   go_meet
   first
    | exact ⟨_, _, rfl, rfl, ((blkAt _ _ _ rfl).alloc _).drew, (blkAt _ _ _ (by simp)).drew, ((x1a.alloc _).alloc _).drew, ((((Below.refl _ _).alloc (Nat.le_refl _) _).alloc (by simp) _).drew)⟩
    | exact ⟨_, _, rfl, rfl, (blkAt _ _ _ (by simp)).drew, ((blkAt _ _ _ rfl).alloc _).drew, ((x1a.alloc _).alloc _).drew, ((((Below.refl _ _).alloc (Nat.le_refl _) _).alloc (by simp) _).drew)⟩
 case rest =>
  clear cx1a lx1a
  obtain ⟨g3, g4, rfl, rfl, y3, y4, y1, q1⟩ := hcut
  replace h := h.belw q1
  have bwc : Below w.heap.size w wc := bw1.trans (q1.mono bw1.size)
  clear x1a bw1
  have cy1_0 : wc.cell? ⟨w.heap.size, 0, none⟩ = some (.bool b) := y1.cell 0
  have cy1_1 : wc.cell? ⟨w.heap.size, 1, none⟩ = some (.slice A n c) := y1.cell 1
  have cy1_2 : wc.cell? ⟨w.heap.size, 2, none⟩ = some (.slice D m e) := y1.cell 2
  have ly1 := lts0 y1.lt
  go_wp2
  go_ret
  exact retB HR.out.symm bwc
theorem f_valid_3 (w : World) (b A n c D m e a k) (h : QD w b A n c D m e a k) (hk : k ≤ 300000000) (h1 : 0 < n) (h2 : 0 < m) (h3 : WD.ok ⟨false, a.num⟩ = false) :
  Calls Tryz.prog 33 #[.agg #[.bool b, .slice A n c, .slice D m e]] w (RetV w (.bool a.ok)) := by
 have HR := Lib.hid (ok_3 h h1 h2 h3)
 have HK := Lib.hid hk
 have H3 := Lib.hid h3
 have e1 : ((n : Int) == 0) = false := by simp; omega
 have e2 : ((m : Int) == 0) = false := by simp; omega
 clear h1 h2 hk h3
 go_enter Tryz.func33, Tryz.ntmps33
 go_wp2_with fail
 have p1 := ((Kp.refl w).alloc (.cells #[.bool b, .slice A n c, .slice D m e] 72))
 have bw1 := ((brefl w).alloc (by first | omega | (simp <;> omega)) (.cells #[.bool b, .slice A n c, .slice D m e] 72))
 have x1a : Blk (w.alloc (.cells #[.bool b, .slice A n c, .slice D m e] 72)) w.heap.size 72 #[.bool b, .slice A n c, .slice D m e] := (blkAt _ _ _ (by simp))
 have lw1 : w.heap.size + 1 ≤ (w.alloc (.cells #[.bool b, .slice A n c, .slice D m e] 72)).heap.size := by simp
 generalize hE1 : (w.alloc (.cells #[.bool b, .slice A n c, .slice D m e] 72)) = w1 at p1 bw1 lw1 x1a ⊢
 clear hE1
 replace h := h.keep p1
 have cx1a := x1a.c3
 have lx1a := lts0 x1a.lt
 go_cut [3, 4] (fun s3 s4 wx => ∃ g3 g4, s3 = .pointer (some ⟨g3, 0, none⟩) ∧ s4 = .pointer (some ⟨g4, 0, none⟩) ∧ Blk wx g3 123 #[.bool false, .slice A n c] ∧ Blk wx g4 123 #[.bool false, .slice D m e] ∧ Blk wx w.heap.size 72 #[.bool b, .slice A n c, .slice D m e] ∧ Below w1.heap.size w1 wx)
 case first =>
  go_region_held3 (fun w' => Sees w1.heap.size w1 w') (first | exact Sees.of (Nat.le_refl _) (below_drewN (brefl _) 1) | exact Sees.of (Nat.le_refl _) ((below_drewN (brefl _) 1).alloc (Nat.le_refl _) _) | exact Sees.of (Nat.le_refl _) (((below_drewN (brefl _) 1).alloc (Nat.le_refl _) _).alloc (by simp) _) | exact Sees.of (Nat.le_refl _) ((((below_drewN (brefl _) 1).alloc (Nat.le_refl _) _).alloc (by simp) _).setCell (by simp) _)) (fail)
  all_goals
   go_wp2_with fail
   go_meet
   first
    | exact ⟨_, _, rfl, rfl, ((blkAt _ _ _ rfl).alloc _).drew, (blkAt _ _ _ (by simp)).drew, ((x1a.alloc _).alloc _).drew, ((((Below.refl _ _).alloc (Nat.le_refl _) _).alloc (by simp) _).drew)⟩
    | exact ⟨_, _, rfl, rfl, (blkAt _ _ _ (by simp)).drew, ((blkAt _ _ _ rfl).alloc _).drew, ((x1a.alloc _).alloc _).drew, ((((Below.refl _ _).alloc (Nat.le_refl _) _).alloc (by simp) _).drew)⟩
 case rest =>
  clear cx1a lx1a
  obtain ⟨g3, g4, rfl, rfl, y3, y4, y1, q1⟩ := hcut
  replace h := h.belw q1
  have bwc : Below w.heap.size w wc := bw1.trans (q1.mono bw1.size)
  clear x1a bw1
  have cy1_0 : wc.cell? ⟨w.heap.size, 0, none⟩ = some (.bool b) := y1.cell 0
  have cy1_1 : wc.cell? ⟨w.heap.size, 1, none⟩ = some (.slice A n c) := y1.cell 1
  have cy1_2 : wc.cell? ⟨w.heap.size, 2, none⟩ = some (.slice D m e) := y1.cell 2
  have ly1 := lts0 y1.lt
  have cy3_0 : wc.cell? ⟨g3, 0, none⟩ = some (.bool false) := y3.cell 0
  have cy3_1 : wc.cell? ⟨g3, 1, none⟩ = some (.slice A n c) := y3.cell 1
  have ly3 := lts0 y3.lt
  go_wp2_with fail
  (with_reducible refine (i_valid_e _ false A n c false a.num  ?_ ?_ ?_).mono ?_); (exact h.2.1); (exact H3.out); (have := h.2.2.2.1; have := HK.out; omega); rintro e w7 ⟨rfl, q7⟩
  clear cy1_0 cy1_1 cy1_2 ly1 cy3_0 cy3_1 ly3
  replace h := h.belw q7
  replace y1 := y1.b q7
  replace y3 := y3.b q7
  replace y4 := y4.b q7
  have bw7 := bwc.trans (q7.mono bwc.size)
  have lw7 := q7.size
  clear q7
  have cy4 := y4.c2
  have ly4 := lts0 y4.lt
  go_wp2_with fail
  go_wp2_with fail
  go_ret
  exact retB HR.out.symm bw7
theorem f_valid_4 (w : World) (b A n c D m e a k) (h : QD w b A n c D m e a k) (hk : k ≤ 300000000) (h1 : 0 < n) (h2 : 0 < m) (h3 : WD.ok ⟨false, a.num⟩ = true) (h4 : WD.ok ⟨false, a.den⟩ = false) :
  Calls Tryz.prog 33 #[.agg #[.bool b, .slice A n c, .slice D m e]] w (RetV w (.bool a.ok)) := by
 have HR := Lib.hid (ok_4 h h1 h2 h3 h4)
 have HK := Lib.hid hk
 have H3 := Lib.hid h3
 have e1 : ((n : Int) == 0) = false := by simp; omega
 have e2 : ((m : Int) == 0) = false := by simp; omega
 have H4 := Lib.hid h4
 clear h4
 clear h1 h2 hk h3
 go_enter Tryz.func33, Tryz.ntmps33
 go_wp2_with fail
 have p1 := ((Kp.refl w).alloc (.cells #[.bool b, .slice A n c, .slice D m e] 72))
 have bw1 := ((brefl w).alloc (by first | omega | (simp <;> omega)) (.cells #[.bool b, .slice A n c, .slice D m e] 72))
 have x1a : Blk (w.alloc (.cells #[.bool b, .slice A n c, .slice D m e] 72)) w.heap.size 72 #[.bool b, .slice A n c, .slice D m e] := (blkAt _ _ _ (by simp))
 have lw1 : w.heap.size + 1 ≤ (w.alloc (.cells #[.bool b, .slice A n c, .slice D m e] 72)).heap.size := by simp
 generalize hE1 : (w.alloc (.cells #[.bool b, .slice A n c, .slice D m e] 72)) = w1 at p1 bw1 lw1 x1a ⊢
 clear hE1
 replace h := h.keep p1
 have cx1a := x1a.c3
 have lx1a := lts0 x1a.lt
 go_cut [3, 4] (fun s3 s4 wx => ∃ g3 g4, s3 = .pointer (some ⟨g3, 0, none⟩) ∧ s4 = .pointer (some ⟨g4, 0, none⟩) ∧ Blk wx g3 123 #[.bool false, .slice A n c] ∧ Blk wx g4 123 #[.bool false, .slice D m e] ∧ Blk wx w.heap.size 72 #[.bool b, .slice A n c, .slice D m e] ∧ Below w1.heap.size w1 wx)
 case first =>
  go_region_held3 (fun w' => Sees w1.heap.size w1 w') (first | exact Sees.of (Nat.le_refl _) (below_drewN (brefl _) 1) | exact Sees.of (Nat.le_refl _) ((below_drewN (brefl _) 1).alloc (Nat.le_refl _) _) | exact Sees.of (Nat.le_refl _) (((below_drewN (brefl _) 1).alloc (Nat.le_refl _) _).alloc (by simp) _) | exact Sees.of (Nat.le_refl _) ((((below_drewN (brefl _) 1).alloc (Nat.le_refl _) _).alloc (by simp) _).setCell (by simp) _)) (fail)
  all_goals
   go_wp2_with fail
   go_meet
   first
    | exact ⟨_, _, rfl, rfl, ((blkAt _ _ _ rfl).alloc _).drew, (blkAt _ _ _ (by simp)).drew, ((x1a.alloc _).alloc _).drew, ((((Below.refl _ _).alloc (Nat.le_refl _) _).alloc (by simp) _).drew)⟩
    | exact ⟨_, _, rfl, rfl, (blkAt _ _ _ (by simp)).drew, ((blkAt _ _ _ rfl).alloc _).drew, ((x1a.alloc _).alloc _).drew, ((((Below.refl _ _).alloc (Nat.le_refl _) _).alloc (by simp) _).drew)⟩
 case rest =>
  clear cx1a lx1a
  obtain ⟨g3, g4, rfl, rfl, y3, y4, y1, q1⟩ := hcut
  replace h := h.belw q1
  have bwc : Below w.heap.size w wc := bw1.trans (q1.mono bw1.size)
  clear x1a bw1
  have cy1 := y1.c3
  have ly1 := lts0 y1.lt
  have cy3 := y3.c2
  have ly3 := lts0 y3.lt
  go_wp2_with fail
  (with_reducible refine (i_valid_e _ false A n c true a.num  ?_ ?_ ?_).mono ?_); (exact h.2.1); (exact H3.out); (have := h.2.2.2.1; have := HK.out; omega); rintro e w7 ⟨rfl, q7⟩
  clear cy1 ly1 cy3 ly3
  replace h := h.belw q7
  replace y1 := y1.b q7
  replace y3 := y3.b q7
  replace y4 := y4.b q7
  have bw7 := bwc.trans (q7.mono bwc.size)
  have lw7 := q7.size
  clear q7
  have cy4 := y4.c2
  have ly4 := lts0 y4.lt
  go_wp2_with fail
  (with_reducible refine (i_valid_e _ false D m e false a.den  ?_ ?_ ?_).mono ?_); (exact h.2.2.1); (exact H4.out); (have := h.2.2.2.2; have := HK.out; omega); rintro e w8 ⟨rfl, q8⟩
  clear cy4 ly4
  replace h := h.belw q8
  replace y1 := y1.b q8
  replace y3 := y3.b q8
  replace y4 := y4.b q8
  have bw8 := bw7.trans (q8.mono bw7.size)
  have lw8 := q8.size
  clear q8 bw7
  go_wp2_with fail
  go_wp2_with fail
  go_ret
  exact retB HR.out.symm bw8
theorem f_valid_5 (w : World) (b A n c D m e a k) (h : QD w b A n c D m e a k) (hk : k ≤ 300000000) (h1 : 0 < n) (h2 : 0 < m) (h3 : WD.ok ⟨false, a.num⟩ = true) (h4 : WD.ok ⟨false, a.den⟩ = true) :
  Calls Tryz.prog 33 #[.agg #[.bool b, .slice A n c, .slice D m e]] w (RetV w (.bool a.ok)) := by
 have HR := Lib.hid (ok_5 h h1 h2 h3 h4)
 have HK := Lib.hid hk
 have H3 := Lib.hid h3
 have e1 : ((n : Int) == 0) = false := by simp; omega
 have e2 : ((m : Int) == 0) = false := by simp; omega
 have H4 := Lib.hid h4
 clear h4
 clear h1 h2 hk h3
 go_enter Tryz.func33, Tryz.ntmps33
 go_wp2_with fail
 have p1 := ((Kp.refl w).alloc (.cells #[.bool b, .slice A n c, .slice D m e] 72))
 have bw1 := ((brefl w).alloc (by first | omega | (simp <;> omega)) (.cells #[.bool b, .slice A n c, .slice D m e] 72))
 have x1a : Blk (w.alloc (.cells #[.bool b, .slice A n c, .slice D m e] 72)) w.heap.size 72 #[.bool b, .slice A n c, .slice D m e] := (blkAt _ _ _ (by simp))
 have lw1 : w.heap.size + 1 ≤ (w.alloc (.cells #[.bool b, .slice A n c, .slice D m e] 72)).heap.size := by simp
 generalize hE1 : (w.alloc (.cells #[.bool b, .slice A n c, .slice D m e] 72)) = w1 at p1 bw1 lw1 x1a ⊢
 clear hE1
 replace h := h.keep p1
 have cx1a := x1a.c3
 have lx1a := lts0 x1a.lt
 go_cut [3, 4] (fun s3 s4 wx => ∃ g3 g4, s3 = .pointer (some ⟨g3, 0, none⟩) ∧ s4 = .pointer (some ⟨g4, 0, none⟩) ∧ Blk wx g3 123 #[.bool false, .slice A n c] ∧ Blk wx g4 123 #[.bool false, .slice D m e] ∧ Blk wx w.heap.size 72 #[.bool b, .slice A n c, .slice D m e] ∧ Below w1.heap.size w1 wx)
 case first =>
  go_region_held3 (fun w' => Sees w1.heap.size w1 w') (first | exact Sees.of (Nat.le_refl _) (below_drewN (brefl _) 1) | exact Sees.of (Nat.le_refl _) ((below_drewN (brefl _) 1).alloc (Nat.le_refl _) _) | exact Sees.of (Nat.le_refl _) (((below_drewN (brefl _) 1).alloc (Nat.le_refl _) _).alloc (by simp) _) | exact Sees.of (Nat.le_refl _) ((((below_drewN (brefl _) 1).alloc (Nat.le_refl _) _).alloc (by simp) _).setCell (by simp) _)) (fail)
  all_goals
   go_wp2_with fail
   go_meet
   first
    | exact ⟨_, _, rfl, rfl, ((blkAt _ _ _ rfl).alloc _).drew, (blkAt _ _ _ (by simp)).drew, ((x1a.alloc _).alloc _).drew, ((((Below.refl _ _).alloc (Nat.le_refl _) _).alloc (by simp) _).drew)⟩
    | exact ⟨_, _, rfl, rfl, (blkAt _ _ _ (by simp)).drew, ((blkAt _ _ _ rfl).alloc _).drew, ((x1a.alloc _).alloc _).drew, ((((Below.refl _ _).alloc (Nat.le_refl _) _).alloc (by simp) _).drew)⟩
 case rest =>
  clear cx1a lx1a
  obtain ⟨g3, g4, rfl, rfl, y3, y4, y1, q1⟩ := hcut
  replace h := h.belw q1
  have bwc : Below w.heap.size w wc := bw1.trans (q1.mono bw1.size)
  clear x1a bw1
  have cy1 := y1.c3
  have ly1 := lts0 y1.lt
  obtain ⟨cy3_0, cy3_1⟩ := y3.c2
  obtain ⟨ly3_0, ly3_1, ly3_2, ly3_3⟩ := lts0 y3.lt
  go_wp2_with fail
  (with_reducible refine (i_valid_e _ false A n c true a.num  ?_ ?_ ?_).mono ?_); (exact h.2.1); (exact H3.out); (have := h.2.2.2.1; have := HK.out; omega); rintro e w7 ⟨rfl, q7⟩
  clear cy1 ly1 cy3_0 cy3_1 ly3_0 ly3_1 ly3_2 ly3_3
  replace h := h.belw q7
  replace y1 := y1.b q7
  replace y3 := y3.b q7
  replace y4 := y4.b q7
  have bw7 := bwc.trans (q7.mono bwc.size)
  have lw7 := q7.size
  clear q7
  obtain ⟨cy4_0, cy4_1⟩ := y4.c2
  obtain ⟨ly4_0, ly4_1, ly4_2, ly4_3⟩ := lts0 y4.lt
  go_wp2_with fail
  (with_reducible refine (i_valid_e _ false D m e true a.den  ?_ ?_ ?_).mono ?_); (exact h.2.2.1); (exact H4.out); (have := h.2.2.2.2; have := HK.out; omega); rintro e w8 ⟨rfl, q8⟩
  clear cy4_0 cy4_1 ly4_0 ly4_1 ly4_2 ly4_3
  replace h := h.belw q8
  replace y1 := y1.b q8
  replace y3 := y3.b q8
  replace y4 := y4.b q8
  have bw8 := bw7.trans (q8.mono bw7.size)
  have lw8 := q8.size
  clear q8 bw7
  obtain ⟨cy3_0, cy3_1⟩ := y3.c2
  obtain ⟨ly3_0, ly3_1, ly3_2, ly3_3⟩ := lts0 y3.lt
  obtain ⟨cy4_0, cy4_1⟩ := y4.c2
  obtain ⟨ly4_0, ly4_1, ly4_2, ly4_3⟩ := lts0 y4.lt
  go_wp2_with fail
  have hN := h.num_z H3.out
  have hD := h.den_z H4.out
  obtain ⟨s, hs⟩ : ∃ s, cmpI ((Nat.gcd ((val a.num : Int)).natAbs ((val a.den : Int)).natAbs : Nat)) 1 = s := ⟨_, rfl⟩
  have HC := Lib.hid hs
  clear hs
  (with_reducible refine (i_gcd _ false A n c ((val a.num : Int)) (k) ?_ false D m e ((val a.den : Int)) (k) ?_ ?_).mono ?_); (exact hN); (exact hD); (have := HK.out; omega); rintro e w9 ⟨b9, A9, n9, c9, rfl, h9, q9⟩
  clear cy3_0 cy3_1 ly3_0 ly3_1 ly3_2 ly3_3 cy4_0 cy4_1 ly4_0 ly4_1 ly4_2 ly4_3
  replace h := h.belw q9
  replace hN := hN.belw q9
  replace hD := hD.belw q9
  replace y1 := y1.b q9
  replace y3 := y3.b q9
  replace y4 := y4.b q9
  have bw9 := bw8.trans (q9.mono bw8.size)
  have lw9 := q9.size
  clear q9 bw8
  go_wp2_with fail
  (with_reducible refine (f_one _).mono ?_); rintro e w10 ⟨b10, A10, n10, c10, rfl, h10, q10⟩
  replace h := h.belw q10
  replace hN := hN.belw q10
  replace hD := hD.belw q10
  replace h9 := h9.belw q10
  replace y1 := y1.b q10
  replace y3 := y3.b q10
  replace y4 := y4.b q10
  have bw10 := bw9.trans (q10.mono bw9.size)
  have lw10 := q10.size
  clear q10 bw9
  go_wp2_with fail
  (with_reducible refine (i_cmp_e _ b9 A9 n9 c9 ((Nat.gcd (((val a.num : Int))).natAbs (((val a.den : Int))).natAbs : Nat)) ((k) + (k)) ?_ b10 A10 n10 c10 (1) (1) ?_ s ?_ ?_).mono ?_); (exact h9.iz); (exact h10.iz); (exact HC.out); (have := HK.out; omega); rintro e w11 ⟨rfl, q11⟩
  replace h := h.belw q11
  replace hN := hN.belw q11
  replace hD := hD.belw q11
  replace h9 := h9.belw q11
  replace h10 := h10.belw q11
  replace y1 := y1.b q11
  replace y3 := y3.b q11
  replace y4 := y4.b q11
  have bw11 := bw10.trans (q11.mono bw10.size)
  have lw11 := q11.size
  clear q11 bw10
  go_wp2_with fail
  go_ret
  exact retB (ok_last HC.out HR.out) bw11
theorem f_valid (w : World) (b A n c D m e a k) (h : QD w b A n c D m e a k) (hk : k ≤ 300000000) : Calls Tryz.prog 33 #[.agg #[.bool b, .slice A n c, .slice D m e]] w (RetV w (.bool a.ok)) := by
  rcases Nat.eq_zero_or_pos n with h1 | h1 <;> rcases Nat.eq_zero_or_pos m with h2 | h2
  · exact f_valid_0 w b A n c D m e a k h hk h1 h2
  · exact f_valid_1 w b A n c D m e a k h hk h1 h2
  · exact f_valid_2 w b A n c D m e a k h hk h1 h2
  · cases h3 : WD.ok ⟨false, a.num⟩
    · exact f_valid_3 w b A n c D m e a k h hk h1 h2 h3
    · cases h4 : WD.ok ⟨false, a.den⟩
      · exact f_valid_4 w b A n c D m e a k h hk h1 h2 h3 h4
      · exact f_valid_5 w b A n c D m e a k h hk h1 h2 h3 h4
end Go.Proofs.YtoiijifnfdgfpaaGreatDoor

/- Walks: words of a list, validity, sign, copies without zeros at the end. -/
namespace Go.Proofs.YtoiijifnfdgfpaaGreatDoor
open Go Go.RowKit Bn
attribute [local go_sem ↓] Go.wp_at_zero Go.wp_at_succ

theorem r_word_c (w : World) (A : Option Addr) (n c : Nat) (l : List Nat) (h : Wd w A n c l) (i : Int) (hi : 0 ≤ i) (hn : n ≤ 4398046511104) :
  Calls Tryz.prog 258 #[.slice A n c, .int .i64 i] w fun e w' => e = .returned (.int .u64 (wd l i.toNat : Nat)) ∧ w = w' := by
 obtain ⟨k, rfl⟩ := Int.eq_ofNat_of_zero_le hi
 have hl := h.lt k
 have hlen : n = l.length := h.2.1
 by_cases hk : k < n
 ·obtain ⟨g, o, rfl, hc⟩ := h.at_ (by omega)
  have hck := hc k hk
  clear hc hi
  have H := Lib.hid hlen
  clear hlen
  go_enter Tryz.func258, Tryz.ntmps258
  go_wp2
  go_ret
  exact ⟨by simp, rfl⟩
 ·have hz : wd l k = 0 := wd_ge (by omega)
  have H := Lib.hid hz
  have H2 := Lib.hid hlen
  clear hz hi hlen
  go_enter Tryz.func258, Tryz.ntmps258
  go_wp2
  go_ret
  exact ⟨by simp [H.out], rfl⟩

theorem r_word_x (w : World) (A : Option Addr) (n c : Nat) (l : List Nat) (h : Wd w A n c l) (k x : Nat) (hx : wd l k = x) (hn : n ≤ 4398046511104) :
    Calls Tryz.prog 258 #[.slice A n c, .int .i64 (k : Nat)] w fun e w' => e = .returned (.int .u64 (x : Nat)) ∧ w = w' := by
  subst hx
  have := r_word_c w A n c l h (k : Nat) (by omega) hn
  simpa using this

theorem r_valid_c (w : World) (b : Bool) (A : Option Addr) (n c : Nat) (l : List Nat) (h : Wd w A n c l) (hn : n ≤ 1099511627776) :
  Calls Tryz.prog 252 #[.agg #[.bool b, .slice A n c]] w (RetV w (.bool (WD.ok ⟨b, l⟩))) := by
 have HL := Lib.hid h.2.1
 by_cases h0 : n = 0
 ·subst h0
  have hl : l = [] := List.eq_nil_of_length_eq_zero HL.out.symm
  have HE := Lib.hid (show WD.ok ⟨b, l⟩ = !b by unfold WD.ok; simp [hl])
  clear hl
  go_enter Tryz.func252, Tryz.ntmps252
  go_wp2
  go_ret
  exact retB HE.out.symm ((Below.refl _ _).alloc (Nat.le_refl _) _)
 ·obtain ⟨g, o, rfl, hgl, hc⟩ := h.at2 (by omega)
  have hck := hc (n - 1) (by omega)
  have hlt := h.lt (n - 1)
  have he : WD.ok ⟨b, l⟩ = !decide (wd l (n - 1) = 0) := by
   have hne : l ≠ [] := by rintro rfl; have := HL.out; simp at this; omega
   unfold WD.ok
   simp only [if_neg hne, ← HL.out]
   by_cases hz : wd l (n - 1) = 0 <;> simp [hz]
  have HE := Lib.hid he
  clear he
  have hn0 : ((n : Int) == 0) = false := by simp; omega
  have hp : 0 < n := by omega
  clear hc h0
  generalize hgx : wd l (n - 1) = x at *
  clear hgx
  go_enter Tryz.func252, Tryz.ntmps252
  go_wp2
  go_ret
  refine retB ?_ ((Below.refl _ _).alloc (Nat.le_refl _) _)
  rw [HE.out]
  by_cases hz : x = 0 <;> simp [hz]

theorem r_mag_c (w : World) (b : Bool) (A : Option Addr) (n c : Nat) (l : List Nat) (h : Wd w A n c l) (hn : n ≤ 1099511627776) :
  Calls Tryz.prog 233 #[.agg #[.bool b, .slice A n c]] w (RetL w (WD.m ⟨b, l⟩)) := by
 cases hk : WD.ok ⟨b, l⟩
 ·have HK := Lib.hid hk
  go_enter Tryz.func233, Tryz.ntmps233
  go_wp2_with (go_at_call 252; refine (r_valid_c _ b A n c l (h.keep ((Kp.refl _).alloc _)) hn).mono ?_; rintro e w1 ⟨rfl, hb⟩)
  go_ret
  refine ⟨none, 0, 0, rfl, ?_, ((Below.refl _ _).alloc (Nat.le_refl _) _).trans (hb.mono (by simp))⟩
  unfold WD.m; rw [HK.out]; exact Wd.nil_ _
 ·have HK := Lib.hid hk
  go_enter Tryz.func233, Tryz.ntmps233
  go_wp2_with (go_at_call 252; refine (r_valid_c _ b A n c l (h.keep ((Kp.refl _).alloc _)) hn).mono ?_; rintro e w1 ⟨rfl, hb⟩; obtain ⟨hc, hf⟩ := bcell hb)
  go_ret
  refine ⟨A, n, c, rfl, ?_, ((Below.refl _ _).alloc (Nat.le_refl _) _).trans (hb.mono (by simp))⟩
  unfold WD.m; rw [HK.out]; exact h.keep (((Kp.refl _).alloc _).below hb)

theorem r_neg_c (w : World) (b : Bool) (A : Option Addr) (n c : Nat) (l : List Nat) (h : Wd w A n c l) (hn : n ≤ 1099511627776) :
  Calls Tryz.prog 234 #[.agg #[.bool b, .slice A n c]] w (RetV w (.bool (WD.s ⟨b, l⟩))) := by
 cases hk : WD.ok ⟨b, l⟩
 ·have HK := Lib.hid hk
  go_enter Tryz.func234, Tryz.ntmps234
  go_wp2_with (go_at_call 252; refine (r_valid_c _ b A n c l (h.keep ((Kp.refl _).alloc _)) hn).mono ?_; rintro e w1 ⟨rfl, hb⟩)
  go_ret
  refine retB ?_ (((Below.refl _ _).alloc (Nat.le_refl _) _).trans (hb.mono (by simp)))
  unfold WD.s; rw [HK.out]; rfl
 ·have HK := Lib.hid hk
  go_enter Tryz.func234, Tryz.ntmps234
  go_wp2_with (go_at_call 252; refine (r_valid_c _ b A n c l (h.keep ((Kp.refl _).alloc _)) hn).mono ?_; rintro e w1 ⟨rfl, hb⟩; obtain ⟨hc, hf⟩ := bcell hb)
  go_ret
  refine retB ?_ (((Below.refl _ _).alloc (Nat.le_refl _) _).trans (hb.mono (by simp)))
  unfold WD.s; rw [HK.out]; simp

end Go.Proofs.YtoiijifnfdgfpaaGreatDoor

/- Walks: the reference's copies without zeros at the end, and the integer of words. -/
namespace Go.Proofs.YtoiijifnfdgfpaaGreatDoor
open Go Go.RowKit Bn
attribute [local go_sem ↓] Go.wp_at_zero Go.wp_at_succ

theorem Wd.cut_ {w : World} {g o n c : Nat} {l : List Nat} (h : Wd w (some ⟨g, o, none⟩) n c l) {j : Nat} (hj : j ≤ n) : Wd w (some ⟨g, o, none⟩) j c (l.take j) := by
  have hl := h.2.1
  refine ⟨Wds.take h.1 j, by rw [List.length_take]; omega, Nat.le_trans hj h.2.2.1, fun h0 => ?_⟩
  obtain ⟨g', o', cur, fr, e, hb, hc⟩ := h.2.2.2 (by omega)
  refine ⟨g', o', cur, fr, e, hb, fun i hi => ?_⟩
  rw [hc i (by omega)]
  have : wd (l.take j) i = wd l i := by simp [wd, List.getD, hi]
  rw [this]
theorem run_append_empty {P : Program} (w : World) (t ty e : TypeId) (i : TypeInfo) (ht : P.underlying t = some (.slice e)) (hi : P.info? e = some i) (g : Nat) (A : Option Addr) (c : Nat) :
    (Builtin.append_ #[t, t] ty #[.slice (some ⟨g, 0, none⟩) 0 0, .slice A 0 c]).run P w = .ok (.slice (some ⟨g, 0, none⟩) 0 0) w := by
  cases A <;> simp [Builtin.append_, run_underlying ht, sizeOf, typeInfo, hi, Builtin.lenOf, Builtin.firstCells, loadCells, loadCellsFrom, storeCells]
theorem wpList_append_empty {P : Program} {w : World} {ops : Array Oper} {rest : List Oper} {o : Oper} {a : Act} {Q : Exit → Act → World → Prop} (hgd : o.guard = none) (s x : Operand) (t : TypeId)
    (ho : o.op = .call { callee := .builtin .append, args := #[s, x], argTypes := #[t, t] })
    (e : TypeId) (i : TypeInfo) (ht : P.underlying t = some (.slice e)) (hi : P.info? e = some i)
    (g : Nat) (A : Option Addr) (c : Nat) (hs : a.eval s = .slice (some ⟨g, 0, none⟩) 0 0) (hx : a.eval x = .slice A 0 c)
    (h : wpList P ops Q rest (a.put o.dst (.slice (some ⟨g, 0, none⟩) 0 0)) w) : wpList P ops Q (o :: rest) a w := by
  refine wpList_plain hgd fun K hK => ?_
  have hrun := run_append_empty (P := P) w t o.type e i ht hi g A c
  unfold Oper.wp
  simp [execOp, ho, resolve, invoke, builtin, hs, hx, hrun, Result.andThen]
  exact hK _ _ h
theorem r_trim_c (w : World) (A : Option Addr) (n c : Nat) (l : List Nat) (h : Wd w A n c l) (hn : n ≤ 4398046511104) :
  Calls Tryz.prog 235 #[.slice A n c] w (RetL w (digs (val l))) := by
 have HL := Lib.hid h.2.1
 have hcap : n ≤ c := h.2.2.1
 obtain ⟨i0, hi0, hz0, hz1, hz2⟩ := info_parts info_u32
 by_cases h0 : n = 0
 ·subst h0
  have HE := Lib.hid (show digs (val l) = [] by rw [List.eq_nil_of_length_eq_zero HL.out.symm]; exact digs_zero)
  clear h hn
  go_enter Tryz.func235, Tryz.ntmps235
  go_wp2_with (at_builtin; refine wpList_append_empty rfl _ _ _ rfl 82 i0 Tryz.underlying70 hi0 _ _ _ rfl rfl ?_)
  go_loop [3] (fun v => v = .slice (some ⟨w.heap.size, 0, none⟩) 0 0) (fun _ => 0)
  case atStart => rfl
  case round =>
   subst hrel
   go_wp2
   go_ret
   refine ⟨_, _, _, rfl, ?_, (Below.refl _ _).alloc (Nat.le_refl _) _⟩
   rw [HE.out]
   exact ⟨by simp [Wds], rfl, Nat.le_refl _, fun h => absurd h (by omega)⟩
 ·obtain ⟨g, o, rfl, hc⟩ := h.at_ (by omega)
  clear hc
  have hp : 0 < n := by omega
  have hown := World.ownsRow_lit (e := 82) (size := 1) w #[] 0 (Nat.le_refl _) (by simp [maxLen]) rfl
  have hnews := (h.keep ((Kp.refl w).alloc (.cells #[] 82))).news (by omega) (Nat.le_refl _)
  have hnl : (words (l.take n)).length = n * 1 := by rw [words_len, List.length_take, ← HL.out]; omega
  have HO := Lib.hid hown
  have HN := Lib.hid hnews
  have HNL := Lib.hid hnl
  have HW := Lib.hid h.1
  clear hown hnews hnl h h0
  go_enter Tryz.func235, Tryz.ntmps235
  go_wp2_with (at_builtin; refine wpList_append_lies _ rfl _ _ _ rfl w.heap.size 82 i0 (.int .u32 0) 1 4 Tryz.underlying70 hi0 hz0 hz1 hz2 rfl (by omega) _ 0 [] rfl HO.out ⟨g, o, none⟩ n c (words (l.take n)) rfl HNL.out HN.out (words_one _) (by omega) (by unfold maxLen; omega) (by omega) (by simp) (w.heap.size + 1) (by simp) ?_; intro gx cap w1 hown1 hgrow hat hlt1)
  simp only [Nat.zero_add, List.nil_append] at hown1
  have hw1 := Wd.of_own hown1 (Wds.take HW.out n)
  rw [List.take_of_length_le (Nat.le_of_eq HL.out.symm)] at hw1
  have hbel := ((Below.refl w.heap.size w).alloc (Nat.le_refl _) (.cells #[] 82)).grown hgrow (by simp) (fun b hb => Nat.le_of_eq (Option.some.inj hb))
  have HW1 := Lib.hid hw1
  have HB := Lib.hid hbel
  have hcap1 : n ≤ cap := hw1.2.2.1
  clear hown1 hgrow hat hw1 hbel HO HN HNL
  go_loop [3] (fun v => ∃ k : Nat, k ≤ n ∧ v = .slice (some ⟨gx, 0, none⟩) k cap ∧ TrimI l k) (fun v => match v with | .slice _ k _ => k | _ => 0)
  case atStart => exact ⟨n, Nat.le_refl _, by simp, fun i hi => wd_ge (by rw [← HL.out]; exact hi)⟩
  case round =>
   obtain ⟨k, hk, rfl, ht⟩ := hrel
   by_cases h0 : k = 0
   ·subst h0
    have HT := Lib.hid ht
    clear ht
    go_wp2
    go_ret
    refine ⟨_, _, _, rfl, ?_, HB.out⟩
    have := digs_of_take HW.out (Nat.zero_le _) HT.out (.inl rfl)
    rw [this]; exact HW1.out.cut_ (Nat.zero_le _)
   ·have hkp : 0 < k := by omega
    obtain ⟨g', o', e, hc⟩ := HW1.out.at_ (by omega)
    injection e with e; injection e with e1 e2
    subst e1 e2
    have hck := hc (k - 1) (by omega)
    rw [Nat.zero_add] at hck
    have hlt := HW1.out.lt (k - 1)
    have HT := Lib.hid ht
    generalize hx : wd l (k - 1) = x at *
    have HX := Lib.hid hx
    clear hc h0 ht hx
    by_cases hz : x = 0
    ·subst hz
     go_wp2
     go_round
     case rel => exact ⟨k - 1, by omega, rfl, fun i hi => by
      by_cases he : i = k - 1
      ·subst he; exact HX.out
      ·exact HT.out i (by omega)⟩
     case measure => dsimp only; omega
    ·have hz' : ((x : Int) == 0) = false := by simp; omega
     have HZ := Lib.hid hz
     clear hz
     go_wp2
     go_ret
     have hd := digs_of_take HW.out (by rw [← HL.out]; exact hk) HT.out (.inr (by rw [HX.out]; exact HZ.out))
     refine ⟨_, _, _, rfl, ?_, HB.out⟩
     rw [hd]; exact HW1.out.cut_ hk
end Go.Proofs.YtoiijifnfdgfpaaGreatDoor

/- Walks: the reference's integer of words, comparison of lists. -/
namespace Go.Proofs.YtoiijifnfdgfpaaGreatDoor
open Go Go.RowKit Bn
attribute [local go_sem ↓] Go.wp_at_zero Go.wp_at_succ

theorem r_form_c (w : World) (b : Bool) (A : Option Addr) (n c : Nat) (l : List Nat) (h : Wd w A n c l) (hn : n ≤ 1099511627776) :
  Calls Tryz.prog 201 #[.bool b, .slice A n c] w (RetW w (wh (sgn b (val l)))) := by
 rw [wh_sgn]
 go_enter Tryz.func201, Tryz.ntmps201
 go_wp2_with fail
 (with_reducible refine (r_trim_c _ A n c l ?_ ?_).mono ?_); (exact h.keep ((Kp.refl _).alloc _)); (omega); rintro e w1 ⟨A1, n1, c1, rfl, h1, hb⟩
 have q : Below w.heap.size w w1 := ((Below.refl _ _).alloc (Nat.le_refl _) _).trans (hb.mono (by simp))
 have x : Blk w1 w.heap.size 123 #[.bool false, .slice none 0 0] := (blkAt w _ _ rfl).below hb (by simp)
 have c0 : w1.cell? ⟨w.heap.size, 0, none⟩ = some (.bool false) := x.cell 0
 have c1' : w1.cell? ⟨w.heap.size, 1, none⟩ = some (.slice none 0 0) := x.cell 1
 have f0 := x.f2
 have HL := Lib.hid h1.2.1
 clear hb h
 by_cases h0 : n1 = 0
 ·subst h0
  have HE := Lib.hid (List.eq_nil_of_length_eq_zero HL.out.symm)
  have H1 := Lib.hid h1
  clear h1
  go_wp2
  refine bodyPost_ret (v := .agg #[.bool false, .slice none 0 0]) (by simp [results, Tryz.results201, go_sem, *] <;> trivial) rfl ?_
  rw [HE.out]
  exact ⟨none, 0, 0, by simp, Wd.nil_ _, (q.setCell (p := ⟨w.heap.size, 0, none⟩) (Nat.le_refl _) _).setCell (p := ⟨w.heap.size, 1, none⟩) (Nat.le_refl _) _⟩
 ·have e0 : ((n1 : Int) == 0) = false := by simp; omega
  have hp : 0 < n1 := by omega
  have H1 := Lib.hid h1
  clear h1 h0
  go_wp2
  refine bodyPost_ret (v := .agg #[.bool b, .slice A1 n1 c1]) (by simp [results, Tryz.results201, go_sem, *] <;> trivial) rfl ?_
  refine ⟨A1, n1, c1, ?_, H1.out.keep (kp2 x.box (by decide) _ _ _ _), (q.setCell (p := ⟨w.heap.size, 0, none⟩) (Nat.le_refl _) _).setCell (p := ⟨w.heap.size, 1, none⟩) (Nat.le_refl _) _⟩
  have : decide (0 < (digs (val l)).length) = true := by rw [← HL.out]; simp [hp]
  rw [this]; simp
theorem r_compare_c (w : World) (A n c l) (wa : Wd w A n c l) (hn : n ≤ 1099511627776) (A' n' c' l') (wb : Wd w A' n' c' l') (hn' : n' ≤ 1099511627776) :
  Calls Tryz.prog 254 #[.slice A n c, .slice A' n' c'] w (RetV w (.int .i64 (cmpN (val l) (val l')))) := by
 have HL := Lib.hid wa.2.1
 have HL' := Lib.hid wb.2.1
 obtain ⟨M, hM⟩ : ∃ M, M = max n n' := ⟨_, rfl⟩
 have HM := Lib.hid hM
 have hM3 : M ≤ 1099511627776 := by omega
 clear hM
 go_enter Tryz.func254, Tryz.ntmps254
 go_wp2
 all_goals
  go_loop [5] (fun v => ∃ k : Nat, k ≤ M ∧ v = .int .i64 ((k : Int) - 1) ∧ CmpI l l' k) (fun v => (intOf v + 1).toNat)
  case atStart => exact ⟨M, Nat.le_refl _, by have := HM.out; rw [show (M : Int) - 1 = _ from rfl]; congr 1; omega, fun j hj => by rw [wd_ge (by rw [← HL.out]; have := HM.out; omega), wd_ge (by rw [← HL'.out]; have := HM.out; omega)]⟩
  case round =>
   obtain ⟨k, hk, rfl, hI⟩ := hrel
   by_cases h0 : k = 0
   ·subst h0
    have HE := Lib.hid (show cmpN (val l) (val l') = 0 by unfold cmpN; rw [val_eq_of (fun j => hI j (Nat.zero_le _))]; simp)
    clear hI
    go_wp2
    go_ret
    exact retI HE.out.symm (Below.refl _ _)
   ·obtain ⟨j, rfl⟩ : ∃ j, k = j + 1 := ⟨k - 1, by omega⟩
    obtain ⟨x, y, hx, hy⟩ : ∃ x y, wd l j = x ∧ wd l' j = y := ⟨_, _, rfl, rfl⟩
    have HX := Lib.hid hx
    have HY := Lib.hid hy
    have HI := Lib.hid hI
    have ej : (((j + 1 : Nat) : Int) - 1) = (j : Int) := by omega
    rw [ej]
    clear hx hy hI h0 ej
    rcases Nat.lt_trichotomy x y with hxy | rfl | hxy
    ·have hne : ((x : Int) != (y : Int)) = true := by rw [bne_iff_ne]; omega
     have HE := Lib.hid (show cmpN (val l) (val l') = -1 by unfold cmpN; rw [if_pos (val_lt_of wa.1 (i := j) (by rw [HX.out, HY.out]; exact hxy) (fun i hi => HI.out i (by omega)))])
     go_wp2_with (first
      | (go_at_call 258; (with_reducible refine (r_word_x _ A n c l ?_ j x HX.out (by omega)).mono ?_); exact wa; rintro e w' ⟨rfl, rfl⟩)
      | (go_at_call 258; (with_reducible refine (r_word_x _ A' n' c' l' ?_ j y HY.out (by omega)).mono ?_); exact wb; rintro e w' ⟨rfl, rfl⟩))
     go_ret
     exact retI HE.out.symm (Below.refl _ _)
    ·go_wp2_with (first
      | (go_at_call 258; (with_reducible refine (r_word_x _ A n c l ?_ j x HX.out (by omega)).mono ?_); exact wa; rintro e w' ⟨rfl, rfl⟩)
      | (go_at_call 258; (with_reducible refine (r_word_x _ A' n' c' l' ?_ j x HY.out (by omega)).mono ?_); exact wb; rintro e w' ⟨rfl, rfl⟩))
     go_round
     case rel => exact ⟨j, by omega, by go_num, fun i hi => by
      by_cases hij : i = j
      ·subst hij; rw [HX.out, HY.out]
      ·exact HI.out i (by omega)⟩
     case measure => simp [intOf]
    ·have hne : ((x : Int) != (y : Int)) = true := by rw [bne_iff_ne]; omega
     have HE := Lib.hid (show cmpN (val l) (val l') = 1 by
      have := val_lt_of wb.1 (i := j) (by rw [HX.out, HY.out]; exact hxy) (fun i hi => (HI.out i (by omega)).symm)
      unfold cmpN; rw [if_neg (by omega), if_neg (by omega)])
     go_wp2_with (first
      | (go_at_call 258; (with_reducible refine (r_word_x _ A n c l ?_ j x HX.out (by omega)).mono ?_); exact wa; rintro e w' ⟨rfl, rfl⟩)
      | (go_at_call 258; (with_reducible refine (r_word_x _ A' n' c' l' ?_ j y HY.out (by omega)).mono ?_); exact wb; rintro e w' ⟨rfl, rfl⟩))
     go_ret
     exact retI HE.out.symm (Below.refl _ _)
end Go.Proofs.YtoiijifnfdgfpaaGreatDoor

/- Walks: the reference's sums and differences of lists. -/
namespace Go.Proofs.YtoiijifnfdgfpaaGreatDoor
open Go Go.RowKit Bn
attribute [local go_sem ↓] Go.wp_at_zero Go.wp_at_succ

theorem wd_snoc_lt {L : List Nat} {d i : Nat} (h : i < L.length) : wd (L ++ [d]) i = wd L i := by
  simp [wd, List.getD, List.getElem?_append_left h]
theorem wd_snoc {L : List Nat} {d : Nat} : wd (L ++ [d]) L.length = d := by simp [wd, List.getD]
theorem Sm_snoc {L : List Nat} {d k : Nat} (h : L.length = k) : Sm (wd (L ++ [d])) (k + 1) = Sm (wd L) k + d * 4294967296 ^ k := by
  subst h
  rw [Sm, wd_snoc, Sm_congr (fun i hi => wd_snoc_lt hi)]
theorem wds_snoc {L : List Nat} {d : Nat} (h : Wds L) (hd : d < 4294967296) : Wds (L ++ [d]) := by
  intro x hx
  rcases List.mem_append.1 hx with h1 | h1
  · exact h x h1
  · simp at h1; omega
theorem words_snoc (L : List Nat) (d : Nat) : words (L ++ [d]) = words L ++ [.int .u32 (d : Nat)] := by simp [words]
theorem own_base {w : World} {base : Nat} {e : TypeId} {size : Nat} {v : Value} {n : Nat} {xs : List Value} (h : w.ownsRow base e size v n xs) : ∀ b, v.ownBlock = some b → base ≤ b := by
  intro b hb
  rcases h.2 with ⟨rfl, _⟩ | ⟨g, c, cur, rfl, h1, _⟩
  · simp [Value.ownBlock] at hb
  · simp [Value.ownBlock] at hb; omega
theorem r_plus_1 (w : World) (A n c l) (wa : Wd w A n c l) (hn : n ≤ 1099511627776) (A' n' c' l') (wb : Wd w A' n' c' l') (hn' : n' ≤ 1099511627776) (hle : n ≤ n') :
  Calls Tryz.prog 238 #[.slice A n c, .slice A' n' c'] w (RetL w (digs (val l + val l'))) := by
 have HL := Lib.hid wa.2.1
 have HL' := Lib.hid wb.2.1
 obtain ⟨i0, hi0, hz0, hz1, hz2⟩ := info_parts info_u32
 go_enter Tryz.func238, Tryz.ntmps238
 go_wp2_with fail
 go_loopw [5, 6, 15] (fun ov cv iv wr => ∃ (k cr : Nat) (L : List Nat), k ≤ n' + 1 ∧ iv = .int .i64 (k : Nat) ∧ cv = .int .u64 (cr : Nat) ∧ cr ≤ 1 ∧ L.length = k ∧ PlusI l l' L k cr ∧ wr.ownsRow w.heap.size 82 1 ov k (words L) ∧ Below w.heap.size w wr) (fun _ _ iv _ => n' + 1 - (intOf iv).toNat)
 case atStart => exact ⟨0, 0, [], Nat.zero_le _, rfl, rfl, by omega, rfl, ⟨by simp [Wds], by simp [Sm]⟩, ⟨rfl, .inl ⟨rfl, rfl⟩⟩, brefl _⟩
 case round =>
  obtain ⟨k, cr, L, hk, rfl, rfl, hcr, hLk, hI, hown, hbel⟩ := hrel
  have hKp := Lib.hid ((Kp.refl w).below hbel)
  have HI := Lib.hid hI
  have HLk := Lib.hid hLk
  have HO := Lib.hid hown
  clear hI hLk hown
  by_cases hkM : k < n' + 1
  ·obtain ⟨x, y, hx, hy⟩ : ∃ x y, wd l k = x ∧ wd l' k = y := ⟨_, _, rfl, rfl⟩
   have hx1 : x < 4294967296 := by rw [← hx]; exact wa.lt k
   have hy1 : y < 4294967296 := by rw [← hy]; exact wb.lt k
   have HX := Lib.hid hx
   have HY := Lib.hid hy
   have hsz := hbel.size
   have HD := Lib.hid (plus_step (x := x) (y := y) HI.out.2)
   clear hx hy
   go_wp2_with (first
    | (go_at_call 258; (with_reducible refine (r_word_x _ A n c l ?_ k x HX.out (by omega)).mono ?_); exact wa.keep hKp.out; rintro e w' ⟨rfl, rfl⟩)
    | (go_at_call 258; (with_reducible refine (r_word_x _ A' n' c' l' ?_ k y HY.out (by omega)).mono ?_); exact wb.keep hKp.out; rintro e w' ⟨rfl, rfl⟩)
    | (at_builtin; refine wpList_append_lies _ rfl _ _ _ rfl w.heap.size 82 i0 (.int .u32 0) 1 4 Tryz.underlying70 hi0 hz0 hz1 hz2 rfl (by omega) _ k (words L) rfl (HO.out.alloc _) ⟨wr.heap.size, 0, none⟩ 1 1 [_] rfl rfl (World.news_of_block (heap_alloc_new wr _)) (by simp [Value.oneCell']) (by omega) (by unfold maxLen; omega) (by omega) (by simp; omega) (wr.heap.size + 1) (by simp) ?_; intro gx cap w1 hown1 hgrow hat hlt1))
   go_roundw
   case rel =>
    refine ⟨k + 1, (cr + x + y) / 4294967296, L ++ [(cr + x + y) % 4294967296], by omega, by go_num, by congr 1; omega, by omega, by simp [HLk.out], ⟨wds_snoc HI.out.1 (Nat.mod_lt _ (by omega)), ?_⟩, ?_, (hbel.alloc hbel.size _).grown hgrow (by simp; omega) (own_base HO.out)⟩
    ·rw [Sm_snoc HLk.out, Sm, Sm, HX.out, HY.out, Nat.pow_succ]
     exact HD.out
    ·have e : (Value.int .u32 (((x : Int) + y + cr) % 4294967296)) = .int .u32 (((cr + x + y) % 4294967296 : Nat) : Int) := by congr 1; omega
     rw [words_snoc, ← e]; exact hown1
   case measure => simp [intOf]; omega
  ·have hkk : k = n' + 1 := by omega
   have hv : val L = val l + val l' := by
    have h1 := HI.out.2
    have h2 := val_lt wa.1
    have h3 := val_lt wb.1
    rw [Sm_ge L (by rw [HLk.out]; exact Nat.le_refl _), Sm_ge l (by rw [← HL.out]; omega), Sm_ge l' (by rw [← HL'.out]; omega)] at h1
    have h4 : 4294967296 ^ l.length ≤ 4294967296 ^ (k - 1) := Nat.pow_le_pow_right (by omega) (by rw [← HL.out]; omega)
    have h5 : 4294967296 ^ l'.length ≤ 4294967296 ^ (k - 1) := Nat.pow_le_pow_right (by omega) (by rw [← HL'.out]; omega)
    have h6 : 4294967296 ^ k = 4294967296 ^ (k - 1) * 4294967296 := by rw [← Nat.pow_succ]; congr 1; omega
    rcases (show cr = 0 ∨ cr = 1 by omega) with rfl | rfl
    ·omega
    ·omega
   have HV := Lib.hid hv
   obtain ⟨gx, cap, rfl, _, _⟩ := HO.out.form (by omega)
   clear hv hkk
   go_wp2_with fail
   (with_reducible refine (r_trim_c _ _ k cap L ?_ ?_).mono ?_); (exact Wd.of_own HO.out HI.out.1); (omega); rintro e w1 ⟨A1, n1, c1, rfl, h1, hb1⟩
   go_wp2
   go_ret
   rw [HV.out] at h1
   exact ⟨_, _, _, rfl, h1, hbel.trans (hb1.mono hbel.size)⟩
theorem r_plus_2 (w : World) (A n c l) (wa : Wd w A n c l) (hn : n ≤ 1099511627776) (A' n' c' l') (wb : Wd w A' n' c' l') (hn' : n' ≤ 1099511627776) (hle : n' < n) :
  Calls Tryz.prog 238 #[.slice A n c, .slice A' n' c'] w (RetL w (digs (val l + val l'))) := by
 have HL := Lib.hid wa.2.1
 have HL' := Lib.hid wb.2.1
 obtain ⟨i0, hi0, hz0, hz1, hz2⟩ := info_parts info_u32
 go_enter Tryz.func238, Tryz.ntmps238
 go_wp2_with fail
 go_loopw [5, 6, 15] (fun ov cv iv wr => ∃ (k cr : Nat) (L : List Nat), k ≤ n + 1 ∧ iv = .int .i64 (k : Nat) ∧ cv = .int .u64 (cr : Nat) ∧ cr ≤ 1 ∧ L.length = k ∧ PlusI l l' L k cr ∧ wr.ownsRow w.heap.size 82 1 ov k (words L) ∧ Below w.heap.size w wr) (fun _ _ iv _ => n + 1 - (intOf iv).toNat)
 case atStart => exact ⟨0, 0, [], Nat.zero_le _, rfl, rfl, by omega, rfl, ⟨by simp [Wds], by simp [Sm]⟩, ⟨rfl, .inl ⟨rfl, rfl⟩⟩, brefl _⟩
 case round =>
  obtain ⟨k, cr, L, hk, rfl, rfl, hcr, hLk, hI, hown, hbel⟩ := hrel
  have hKp := Lib.hid ((Kp.refl w).below hbel)
  have HI := Lib.hid hI
  have HLk := Lib.hid hLk
  have HO := Lib.hid hown
  clear hI hLk hown
  by_cases hkM : k < n + 1
  ·obtain ⟨x, y, hx, hy⟩ : ∃ x y, wd l k = x ∧ wd l' k = y := ⟨_, _, rfl, rfl⟩
   have hx1 : x < 4294967296 := by rw [← hx]; exact wa.lt k
   have hy1 : y < 4294967296 := by rw [← hy]; exact wb.lt k
   have HX := Lib.hid hx
   have HY := Lib.hid hy
   have hsz := hbel.size
   have HD := Lib.hid (plus_step (x := x) (y := y) HI.out.2)
   clear hx hy
   go_wp2_with (first
    | (go_at_call 258; (with_reducible refine (r_word_x _ A n c l ?_ k x HX.out (by omega)).mono ?_); exact wa.keep hKp.out; rintro e w' ⟨rfl, rfl⟩)
    | (go_at_call 258; (with_reducible refine (r_word_x _ A' n' c' l' ?_ k y HY.out (by omega)).mono ?_); exact wb.keep hKp.out; rintro e w' ⟨rfl, rfl⟩)
    | (at_builtin; refine wpList_append_lies _ rfl _ _ _ rfl w.heap.size 82 i0 (.int .u32 0) 1 4 Tryz.underlying70 hi0 hz0 hz1 hz2 rfl (by omega) _ k (words L) rfl (HO.out.alloc _) ⟨wr.heap.size, 0, none⟩ 1 1 [_] rfl rfl (World.news_of_block (heap_alloc_new wr _)) (by simp [Value.oneCell']) (by omega) (by unfold maxLen; omega) (by omega) (by simp; omega) (wr.heap.size + 1) (by simp) ?_; intro gx cap w1 hown1 hgrow hat hlt1))
   go_roundw
   case rel =>
    refine ⟨k + 1, (cr + x + y) / 4294967296, L ++ [(cr + x + y) % 4294967296], by omega, by go_num, by congr 1; omega, by omega, by simp [HLk.out], ⟨wds_snoc HI.out.1 (Nat.mod_lt _ (by omega)), ?_⟩, ?_, (hbel.alloc hbel.size _).grown hgrow (by simp; omega) (own_base HO.out)⟩
    ·rw [Sm_snoc HLk.out, Sm, Sm, HX.out, HY.out, Nat.pow_succ]
     exact HD.out
    ·have e : (Value.int .u32 (((x : Int) + y + cr) % 4294967296)) = .int .u32 (((cr + x + y) % 4294967296 : Nat) : Int) := by congr 1; omega
     rw [words_snoc, ← e]; exact hown1
   case measure => simp [intOf]; omega
  ·have hkk : k = n + 1 := by omega
   have hv : val L = val l + val l' := by
    have h1 := HI.out.2
    have h2 := val_lt wa.1
    have h3 := val_lt wb.1
    rw [Sm_ge L (by rw [HLk.out]; exact Nat.le_refl _), Sm_ge l (by rw [← HL.out]; omega), Sm_ge l' (by rw [← HL'.out]; omega)] at h1
    have h4 : 4294967296 ^ l.length ≤ 4294967296 ^ (k - 1) := Nat.pow_le_pow_right (by omega) (by rw [← HL.out]; omega)
    have h5 : 4294967296 ^ l'.length ≤ 4294967296 ^ (k - 1) := Nat.pow_le_pow_right (by omega) (by rw [← HL'.out]; omega)
    have h6 : 4294967296 ^ k = 4294967296 ^ (k - 1) * 4294967296 := by rw [← Nat.pow_succ]; congr 1; omega
    rcases (show cr = 0 ∨ cr = 1 by omega) with rfl | rfl
    ·omega
    ·omega
   have HV := Lib.hid hv
   obtain ⟨gx, cap, rfl, _, _⟩ := HO.out.form (by omega)
   clear hv hkk
   go_wp2_with fail
   (with_reducible refine (r_trim_c _ _ k cap L ?_ ?_).mono ?_); (exact Wd.of_own HO.out HI.out.1); (omega); rintro e w1 ⟨A1, n1, c1, rfl, h1, hb1⟩
   go_wp2
   go_ret
   rw [HV.out] at h1
   exact ⟨_, _, _, rfl, h1, hbel.trans (hb1.mono hbel.size)⟩
theorem r_plus_c (w : World) (A n c l) (wa : Wd w A n c l) (hn : n ≤ 1099511627776) (A' n' c' l') (wb : Wd w A' n' c' l') (hn' : n' ≤ 1099511627776) :
    Calls Tryz.prog 238 #[.slice A n c, .slice A' n' c'] w (RetL w (digs (val l + val l'))) := by
  rcases Nat.lt_or_ge n' n with h | h
  · exact r_plus_2 w A n c l wa hn A' n' c' l' wb hn' h
  · exact r_plus_1 w A n c l wa hn A' n' c' l' wb hn' h
end Go.Proofs.YtoiijifnfdgfpaaGreatDoor

/- Walks: the reference's Neg, Add, Of. -/
namespace Go.Proofs.YtoiijifnfdgfpaaGreatDoor
open Go Go.RowKit Bn
attribute [local go_sem ↓] Go.wp_at_zero Go.wp_at_succ
theorem r_form_e (w : World) (b : Bool) (A : Option Addr) (n c : Nat) (l : List Nat) (z : Int) (h : Wd w A n c l) (hn : n ≤ 1099511627776) (hz : sgn b (val l) = z) :
    Calls Tryz.prog 201 #[.bool b, .slice A n c] w (RetW w (wh z)) := by subst hz; exact r_form_c w b A n c l h hn
theorem r_neg_C (w : World) (b : Bool) (A n c l) (wa : Wd w A n c l) (hn : n ≤ 1099511627000) :
    Calls Tryz.prog 202 #[.agg #[.bool b, .slice A n c]] w (RetW w (wh (-WD.z ⟨b, l⟩))) := by
  have HL := Lib.hid wa.2.1
  go_enter Tryz.func202, Tryz.ntmps202
  go_wp2_with fail
  have b0 : Below w.heap.size w ((w.alloc (.cells #[.bool b, .slice A n c] 123)).alloc (.cells #[.bool false, .slice none 0 0] 123)) := (((Below.refl _ _).alloc (Nat.le_refl _) _).alloc (by simp) _)
  generalize hW0 : ((w.alloc (.cells #[.bool b, .slice A n c] 123)).alloc (.cells #[.bool false, .slice none 0 0] 123)) = W0 at b0 ⊢
  have c00 : W0.cell? ⟨w.heap.size, 0, none⟩ = some (.bool b) := by subst hW0; simp [go_sem]
  have f00 : W0.frozen? ⟨w.heap.size, 0, none⟩ = false := by subst hW0; simp [go_sem]
  have c01 : W0.cell? ⟨w.heap.size, 1, none⟩ = some (.slice A n c) := by subst hW0; simp [go_sem]
  have f01 : W0.frozen? ⟨w.heap.size, 1, none⟩ = false := by subst hW0; simp [go_sem]
  have c10 : W0.cell? ⟨w.heap.size + 1, 0, none⟩ = some (.bool false) := by subst hW0; simp [go_sem]
  have f10 : W0.frozen? ⟨w.heap.size + 1, 0, none⟩ = false := by subst hW0; simp [go_sem]
  have c11 : W0.cell? ⟨w.heap.size + 1, 1, none⟩ = some (.slice none 0 0) := by subst hW0; simp [go_sem]
  have f11 : W0.frozen? ⟨w.heap.size + 1, 1, none⟩ = false := by subst hW0; simp [go_sem]
  have x0 : Box W0 w.heap.size 123 := by subst hW0; exact (boxAt _ _ _ (by simp)).alloc _
  have x1 : Box W0 (w.heap.size + 1) 123 := by subst hW0; exact boxAt _ _ _ (by simp)
  have hm0 : Made (w.heap.size + 1) (w.heap.size + 1 + 1) 2 W0 := by subst hW0; exact made1 (by simp)
  have hs0 : w.heap.size + 1 + 1 ≤ W0.heap.size := by subst hW0; simp
  clear hW0
  have wa := wa.belw b0
  have r0 : Below W0.heap.size W0 W0 := brefl _
  have hRB : w.heap.size + 1 ≤ w.heap.size + 1 + 1 := by omega
  go_region_held3 (fun w' => Sees (w.heap.size + 1) W0 w') (first | exact Sees.of (Nat.le_trans hRB hs0) (by assumption) | exact Sees.of (Nat.le_trans hRB hs0) (below_drewN (by assumption) _) | exact (Sees.set (Sees.of (Nat.le_trans hRB hs0) (by assumption)) (by simp)) | exact (Sees.set (Sees.set (Sees.of (Nat.le_trans hRB hs0) (by assumption)) (by simp)) (by simp)))
    (first
      | (go_at_call 234; (with_reducible refine (r_neg_c _ b A n c l ?_ ?_).mono ?_); (exact wa); (omega); rintro e w1 ⟨rfl, hb1⟩; replace hb1 := bnext (below_drewN (brefl _) 1) hb1; have r1 := bnext r0 hb1; replace wa := wa.belw hb1)
      | (go_at_call 233; (with_reducible refine (r_mag_c _ b A n c l ?_ ?_).mono ?_); (exact wa); (omega); rintro e w2 ⟨A1, n1, c1, rfl, h1, hb2⟩; have r2 := bnext r1 hb2; replace wa := wa.belw hb2)
      | (go_at_call 201; (with_reducible refine (r_form_e _ (!WD.s ⟨b, l⟩) A1 n1 c1 (WD.m ⟨b, l⟩) (-WD.z ⟨b, l⟩) ?_ ?_ ?_).mono ?_); (exact h1); (exact Nat.le_trans (h1.m_len (by rw [← HL.out]; exact hn)) (by decide)); (exact (z_neg _).symm); rintro e w3 ⟨A2, n2, c2, rfl, h2, hb3⟩; have r3 := bnext r2 hb3; replace wa := wa.belw hb3; replace h1 := h1.belw hb3; obtain ⟨⟨sc, sf⟩, sr, sz⟩ := Seen.of (by omega) hs0 hm0 r3))
  clear hRB
  go_wp2_with fail
  refine bodyPost_ret (v := .agg #[.bool _, .slice A2 n2 c2]) (by simp [results, Tryz.results202, go_sem, sr]; rfl) rfl ?_
  have x := x1.below r3
  refine retW ?_ ?_ ?_
  · rfl
  · exact h2.keep (kp2 x (by decide) _ _ _ _)
  · exact ((b0.trans (r3.mono b0.size)).setCell (by dsimp only; omega) _).setCell (by dsimp only; omega) _
theorem r_of_c (w : World) (i : Int) (h0 : -9223372036854775808 ≤ i) (h1 : i < 9223372036854775808) :
  Calls Tryz.prog 158 #[.int .i64 i] w (RetW w (wh i)) := by
 obtain ⟨v, hv⟩ : ∃ v : Nat, v = i.natAbs := ⟨_, rfl⟩
 have hv2 : v < 18446744073709551616 := by omega
 have hval : val [v % 4294967296, v / 4294967296] = v := by simp [val]; omega
 have HV := Lib.hid hval
 by_cases hneg : i < 0
 ·have e1 : IntKind.u64.wrap i = i + 18446744073709551616 := by unfold IntKind.wrap; simp [IntKind.bits, IntKind.signed]; omega
  have e2 : IntKind.u64.wrap (-(i + 18446744073709551616)) = (v : Int) := by unfold IntKind.wrap; simp [IntKind.bits, IntKind.signed]; omega
  have e3 : decide (i < 0) = true := by simp; omega
  have e4 : IntKind.u32.wrap (v : Int) = ((v % 4294967296 : Nat) : Int) := by unfold IntKind.wrap; simp [IntKind.bits, IntKind.signed]
  have e5 : IntKind.u32.wrap ((v : Int) / 4294967296) = ((v / 4294967296 : Nat) : Int) := by unfold IntKind.wrap; simp [IntKind.bits, IntKind.signed]; omega
  have HZ := Lib.hid (show sgn true v = i by simp [sgn]; omega)
  have HV2 := Lib.hid hv2
  clear hv hval hv2 hneg h0 h1
  go_enter Tryz.func158, Tryz.ntmps158
  go_wp2_with (go_at_call 201; (with_reducible refine (r_form_e _ true (some ⟨w.heap.size + 1, 0, none⟩) 2 2 [v % 4294967296, v / 4294967296] i ?_ ?_ ?_).mono ?_); (exact two_word (w.alloc _) _ (by simp) _ _ v (by simp) (by simp) HV2.out); (omega); (rw [HV.out]; exact HZ.out); rintro e w1 ⟨A1, n1, c1, rfl, h1, hb⟩; obtain ⟨hc, hf⟩ := bcell hb)
  have hc0 : w1.cell? ⟨w.heap.size, 0, none⟩ = some (.bool false) := (hc w.heap.size 0 (by simp; omega)).trans (by simp [go_sem])
  have hc1 : w1.cell? ⟨w.heap.size, 1, none⟩ = some (.slice none 0 0) := (hc w.heap.size 1 (by simp; omega)).trans (by simp [go_sem])
  refine bodyPost_ret (v := .agg #[.bool _, .slice A1 n1 c1]) (by simp [results, Tryz.results158, go_sem, hc0, hc1]; rfl) rfl ?_
  have x := ((boxAt w #[.bool false, .slice none 0 0] 123 rfl).alloc _).below hb
  refine retW ?_ ?_ ?_
  ·rfl
  ·exact h1.keep (kp2 x (by decide) _ _ _ _)
  ·exact ((((((Below.refl _ _).alloc (Nat.le_refl _) _).alloc (by simp) _).trans (hb.mono (by simp; omega)))).setCell (by dsimp only; omega) _).setCell (by dsimp only; omega) _
 ·have e1 : IntKind.u64.wrap i = (v : Int) := by unfold IntKind.wrap; simp [IntKind.bits, IntKind.signed]; omega
  have e3 : decide (i < 0) = false := by simp; omega
  have e4 : IntKind.u32.wrap (v : Int) = ((v % 4294967296 : Nat) : Int) := by unfold IntKind.wrap; simp [IntKind.bits, IntKind.signed]
  have e5 : IntKind.u32.wrap ((v : Int) / 4294967296) = ((v / 4294967296 : Nat) : Int) := by unfold IntKind.wrap; simp [IntKind.bits, IntKind.signed]; omega
  have HZ := Lib.hid (show sgn false v = i by simp [sgn]; omega)
  have HV2 := Lib.hid hv2
  clear hv hval hv2 hneg h0 h1
  go_enter Tryz.func158, Tryz.ntmps158
  go_wp2_with (go_at_call 201; (with_reducible refine (r_form_e _ false (some ⟨w.heap.size + 1, 0, none⟩) 2 2 [v % 4294967296, v / 4294967296] i ?_ ?_ ?_).mono ?_); (exact two_word (w.alloc _) _ (by simp) _ _ v (by simp) (by simp) HV2.out); (omega); (rw [HV.out]; exact HZ.out); rintro e w1 ⟨A1, n1, c1, rfl, h1, hb⟩; obtain ⟨hc, hf⟩ := bcell hb)
  have hc0 : w1.cell? ⟨w.heap.size, 0, none⟩ = some (.bool false) := (hc w.heap.size 0 (by simp; omega)).trans (by simp [go_sem])
  have hc1 : w1.cell? ⟨w.heap.size, 1, none⟩ = some (.slice none 0 0) := (hc w.heap.size 1 (by simp; omega)).trans (by simp [go_sem])
  refine bodyPost_ret (v := .agg #[.bool _, .slice A1 n1 c1]) (by simp [results, Tryz.results158, go_sem, hc0, hc1]; rfl) rfl ?_
  have x := ((boxAt w #[.bool false, .slice none 0 0] 123 rfl).alloc _).below hb
  refine retW ?_ ?_ ?_
  ·rfl
  ·exact h1.keep (kp2 x (by decide) _ _ _ _)
  ·exact ((((((Below.refl _ _).alloc (Nat.le_refl _) _).alloc (by simp) _).trans (hb.mono (by simp; omega)))).setCell (by dsimp only; omega) _).setCell (by dsimp only; omega) _
end Go.Proofs.YtoiijifnfdgfpaaGreatDoor

/- Walks: the reference's Sign, Sub, Cmp; its contracts as values. -/
namespace Go.Proofs.YtoiijifnfdgfpaaGreatDoor
open Go Go.RowKit Bn
attribute [local go_sem ↓] Go.wp_at_zero Go.wp_at_succ
theorem r_sign_c (w : World) (b : Bool) (A n c l) (wa : Wd w A n c l) (hn : n ≤ 1099511627000) :
  Calls Tryz.prog 200 #[.agg #[.bool b, .slice A n c]] w (RetV w (.int .i64 (WD.z ⟨b, l⟩).sign)) := by
 have hz := WD.z_eq ⟨b, l⟩
 have hcan : Canon (WD.m ⟨b, l⟩) := WD.canon_m wa.1
 by_cases hm : WD.m ⟨b, l⟩ = []
 ·have HE := Lib.hid (show (WD.z ⟨b, l⟩).sign = 0 by rw [hz, hm]; cases WD.s ⟨b, l⟩ <;> rfl)
  have HM := Lib.hid hm
  clear hz hm hcan
  go_enter Tryz.func200, Tryz.ntmps200
  go_wp2_with fail
  (with_reducible refine (r_mag_c _ b A n c l ?_ ?_).mono ?_); (exact wa.keep ((Kp.refl _).alloc _)); (omega); rintro e w1 ⟨A1, n1, c1, rfl, h1, hb⟩
  have hn1 : n1 = 0 := by rw [h1.2.1, HM.out]; rfl
  subst hn1
  go_wp2_with fail
  go_ret
  exact retI HE.out.symm (((Below.refl _ _).alloc (Nat.le_refl _) _).trans (hb.mono (by simp)))
 ·obtain ⟨s, hs⟩ : ∃ s, WD.s ⟨b, l⟩ = s := ⟨_, rfl⟩
  have hv : val (WD.m ⟨b, l⟩) ≠ 0 := fun e => hm ((val_eq_zero hcan).1 e)
  have HE := Lib.hid (show (WD.z ⟨b, l⟩).sign = if s then -1 else 1 by
   rw [hz, hs]
   cases s
   ·simp only [sgn]; exact Int.sign_eq_one_of_pos (by simp; omega)
   ·simp only [sgn]; exact Int.sign_eq_neg_one_of_neg (by simp; omega))
  have HM := Lib.hid hm
  have HS := Lib.hid hs
  clear hz hm hcan hs hv
  go_enter Tryz.func200, Tryz.ntmps200
  go_wp2_with fail
  (with_reducible refine (r_mag_c _ b A n c l ?_ ?_).mono ?_); (exact wa.keep ((Kp.refl _).alloc _)); (omega); rintro e w1 ⟨A1, n1, c1, rfl, h1, hb⟩
  have hn1 : n1 ≠ 0 := fun e => HM.out (List.eq_nil_of_length_eq_zero (by rw [← h1.2.1, e]))
  have e0 : ((n1 : Int) == 0) = false := by simp; omega
  have q : Below w.heap.size w w1 := ((Below.refl _ _).alloc (Nat.le_refl _) _).trans (hb.mono (by simp))
  have x : Blk w1 w.heap.size 123 #[.bool b, .slice A n c] := (blkAt w _ _ rfl).below hb (by simp)
  have cx0 := x.c2
  clear hb hn1
  go_wp2_with fail
  (with_reducible refine (r_neg_c _ b A n c l ?_ ?_).mono ?_); (exact wa.belw q); (omega); rintro e w2 ⟨rfl, hb2⟩
  rw [HS.out]
  cases s
  all_goals
   go_wp2_with fail
   go_ret
   exact retI HE.out.symm (q.trans (hb2.mono q.size))
section
variable (w : World) (b A n c z k) (h : IZ w b A n c z k) (b' A' n' c' z' k') (h' : IZ w b' A' n' c' z' k')
include h
theorem r01_neg (hk : k ≤ 1000000000) : Calls Tryz.prog 202 #[.agg #[.bool b, .slice A n c]] w (RetI w (-z) k) := by
  have hz := h.lt
  obtain ⟨l, h1, rfl, h3⟩ := h
  exact (r_neg_C w b A n c l h1 (by omega)).mono fun _ _ r => r.i (by omega)
theorem r01_sign (hk : k ≤ 1000000000) : Calls Tryz.prog 200 #[.agg #[.bool b, .slice A n c]] w (RetV w (.int .i64 z.sign)) := by
  obtain ⟨l, h1, rfl, h3⟩ := h
  exact r_sign_c w b A n c l h1 (by omega)
include h'
end
theorem r01_of (w : World) (i : Int) (k : Nat) (h0 : -9223372036854775808 ≤ i) (h1 : i < 9223372036854775808) (hs : i.natAbs < 4294967296 ^ k) : Calls Tryz.prog 158 #[.int .i64 i] w (RetI w i k) :=
  (r_of_c w i h0 h1).mono fun _ _ r => r.i hs
theorem r01_of1 (w : World) (i : Int) (h0 : -4294967296 < i) (h1 : i < 4294967296) : Calls Tryz.prog 158 #[.int .i64 i] w (RetI w i 1) := r01_of w i 1 (by omega) (by omega) (by omega)
end Go.Proofs.YtoiijifnfdgfpaaGreatDoor

/- Walks: the reference's lists that are changed in their place. -/
namespace Go.Proofs.YtoiijifnfdgfpaaGreatDoor
open Go Go.RowKit Bn
attribute [local go_sem ↓] Go.wp_at_zero Go.wp_at_succ

def OwS (w : World) (B g n cap : Nat) (l : List Nat) : Prop := w.ownsRow B 82 1 (.slice (some ⟨g, 0, none⟩) n cap) n (words l) ∧ Wds l
theorem OwS.len {w : World} {B g n cap : Nat} {l : List Nat} (h : OwS w B g n cap l) : n = l.length := by have := h.1.1; rw [words_len] at this; omega
theorem OwS.base {w : World} {B g n cap : Nat} {l : List Nat} (h : OwS w B g n cap l) : B ≤ g := own_base h.1 g rfl
theorem OwS.toWd {w : World} {B g n cap : Nat} {l : List Nat} (h : OwS w B g n cap l) : Wd w (some ⟨g, 0, none⟩) n cap l := Wd.of_own h.1 h.2
theorem OwS.cell {w : World} {B g n cap : Nat} {l : List Nat} (h : OwS w B g n cap l) (i : Nat) (hi : i < n) : w.cell? ⟨g, i, none⟩ = some (.int .u32 (wd l i : Nat)) := by
  rw [h.1.cellAt i (by omega)]; exact words_get (by rw [← h.len]; exact hi)
theorem OwS.frozen {w : World} {B g n cap : Nat} {l : List Nat} (h : OwS w B g n cap l) (i : Nat) : w.frozen? ⟨g, i, none⟩ = false := h.1.frozenAt i
theorem OwS.lt {w : World} {B g n cap : Nat} {l : List Nat} (h : OwS w B g n cap l) : g < w.heap.size := by
  rcases h.1.2 with ⟨e, _⟩ | ⟨g', c', cur, e, _, hg, _⟩
  · cases e
  · injection e with e; injection e with e; injection e with e; subst e; exact lt_of_block hg
theorem OwS.cap {w : World} {B g n cap : Nat} {l : List Nat} (h : OwS w B g n cap l) : n ≤ cap := h.toWd.2.2.1
theorem OwS.cut {w : World} {B g n cap : Nat} {l : List Nat} (h : OwS w B g n cap l) {k : Nat} (hk : k ≤ n) : OwS w B g k cap (l.take k) := by
  have hl := h.len
  refine ⟨⟨by rw [words_len, List.length_take]; omega, ?_⟩, Wds.take h.2 k⟩
  rcases h.1.2 with ⟨e, _⟩ | ⟨g', c', cur, e, hb, hg, hc, hm, hs, ht⟩
  · cases e
  · injection e with e1 _ e2; injection e1 with e1; injection e1 with e1; subst e1 e2
    refine .inr ⟨g, cap, cur, rfl, hb, hg, by omega, hm, hs, ?_⟩
    have : words (l.take k) = (words l).take k := by simp [words, List.map_take]
    rw [this, ← ht, List.take_take]; congr 1; omega
theorem words_set (l : List Nat) (i x : Nat) : (words l).set i (.int .u32 (x : Nat)) = words (l.set i x) := by simp [words, List.map_set]
theorem OwS.set {w : World} {B g n cap : Nat} {l : List Nat} (h : OwS w B g n cap l) (i : Nat) {x : Nat} (hx : x < 4294967296) {z : Int} (hz : z = x) : OwS (w.setCell ⟨g, i, none⟩ (.int .u32 z)) B g n cap (l.set i x) := by
  subst hz
  refine ⟨?_, wds_set h.2 i hx⟩
  rw [← words_set]
  exact (h.1.stored i _).1
def Only (g : Nat) (w w' : World) : Prop := Below g w w' ∧ w'.heap.size = w.heap.size ∧ ∀ b, b ≠ g → w'.heap[b]? = w.heap[b]?
theorem Only.refl (g : Nat) (w : World) : Only g w w := ⟨Below.refl _ _, rfl, fun _ _ => rfl⟩
theorem Only.set {g : Nat} {w w' : World} (h : Only g w w') (i : Nat) (u : Value) : Only g w (w'.setCell ⟨g, i, none⟩ u) :=
  ⟨h.1.setCell (p := ⟨g, i, none⟩) (Nat.le_refl _) u, by rw [← h.2.1]; simp [World.setCell], fun b hb => (Below.heap_setCell w' ⟨g, i, none⟩ u b hb).trans (h.2.2 b hb)⟩
theorem Only.trans {g : Nat} {a b c : World} (h : Only g a b) (k : Only g b c) : Only g a c := ⟨h.1.trans k.1, k.2.1.trans h.2.1, fun x hx => (k.2.2 x hx).trans (h.2.2 x hx)⟩
theorem Only.own {g : Nat} {w w' : World} (h : Only g w w') {B g' n cap : Nat} {l : List Nat} (k : OwS w B g' n cap l) (hg : g' ≠ g) : OwS w' B g' n cap l := by
  refine ⟨⟨k.1.1, ?_⟩, k.2⟩
  rcases k.1.2 with ⟨e, _⟩ | ⟨g1, c', cur, e, hb, hgg, r⟩
  · cases e
  · have e' := e
    injection e with e1 _ e2; injection e1 with e1; injection e1 with e1; subst e1
    exact .inr ⟨g', c', cur, e', hb, (h.2.2 _ hg).trans hgg, r⟩
theorem Only.wd {g : Nat} {w w' : World} (h : Only g w w') {g' o n c : Nat} {l : List Nat} (k : Wd w (some ⟨g', o, none⟩) n c l) (hg : g' ≠ g) : Wd w' (some ⟨g', o, none⟩) n c l := by
  refine ⟨k.1, k.2.1, k.2.2.1, fun hn => ?_⟩
  obtain ⟨g1, o1, cur, fr, e, hb, hc⟩ := k.2.2.2 hn
  have e' := e
  injection e with e1; injection e1 with e1; subst e1
  exact ⟨_, o1, cur, fr, e', hb.same (h.2.2 _ hg), hc⟩
def RetO (w : World) (l : List Nat) (e : Ending) (w' : World) : Prop := ∃ g k cap, e = .returned (.slice (some ⟨g, 0, none⟩) k cap) ∧ OwS w' w.heap.size g k cap l ∧ Below w.heap.size w w'
theorem r_trim_o (w : World) (A : Option Addr) (n c : Nat) (l : List Nat) (h : Wd w A n c l) (hn : n ≤ 4398046511104) :
  Calls Tryz.prog 235 #[.slice A n c] w (RetO w (digs (val l))) := by
 have HL := Lib.hid h.2.1
 have hcap : n ≤ c := h.2.2.1
 obtain ⟨i0, hi0, hz0, hz1, hz2⟩ := info_parts info_u32
 by_cases h0 : n = 0
 ·subst h0
  have HE := Lib.hid (show digs (val l) = [] by rw [List.eq_nil_of_length_eq_zero HL.out.symm]; exact digs_zero)
  clear h hn
  go_enter Tryz.func235, Tryz.ntmps235
  go_wp2_with (at_builtin; refine wpList_append_empty rfl _ _ _ rfl 82 i0 Tryz.underlying70 hi0 _ _ _ rfl rfl ?_)
  go_loop [3] (fun v => v = .slice (some ⟨w.heap.size, 0, none⟩) 0 0) (fun _ => 0)
  case atStart => rfl
  case round =>
   subst hrel
   go_wp2
   go_ret
   refine ⟨_, _, _, rfl, ?_, (Below.refl _ _).alloc (Nat.le_refl _) _⟩
   rw [HE.out]
   exact ⟨World.ownsRow_lit (e := 82) (size := 1) w #[] 0 (Nat.le_refl _) (by simp [maxLen]) rfl, by simp [Wds]⟩
 ·obtain ⟨g, o, rfl, hc⟩ := h.at_ (by omega)
  clear hc
  have hp : 0 < n := by omega
  have hown := World.ownsRow_lit (e := 82) (size := 1) w #[] 0 (Nat.le_refl _) (by simp [maxLen]) rfl
  have hnews := (h.keep ((Kp.refl w).alloc (.cells #[] 82))).news (by omega) (Nat.le_refl _)
  have hnl : (words (l.take n)).length = n * 1 := by rw [words_len, List.length_take, ← HL.out]; omega
  have HO := Lib.hid hown
  have HN := Lib.hid hnews
  have HNL := Lib.hid hnl
  have HW := Lib.hid h.1
  clear hown hnews hnl h h0
  go_enter Tryz.func235, Tryz.ntmps235
  go_wp2_with (at_builtin; refine wpList_append_lies _ rfl _ _ _ rfl w.heap.size 82 i0 (.int .u32 0) 1 4 Tryz.underlying70 hi0 hz0 hz1 hz2 rfl (by omega) _ 0 [] rfl HO.out ⟨g, o, none⟩ n c (words (l.take n)) rfl HNL.out HN.out (words_one _) (by omega) (by unfold maxLen; omega) (by omega) (by simp) (w.heap.size + 1) (by simp) ?_; intro gx cap w1 hown1 hgrow hat hlt1)
  simp only [Nat.zero_add, List.nil_append] at hown1
  have hw1 := Wd.of_own hown1 (Wds.take HW.out n)
  rw [List.take_of_length_le (Nat.le_of_eq HL.out.symm)] at hw1
  have hbel := ((Below.refl w.heap.size w).alloc (Nat.le_refl _) (.cells #[] 82)).grown hgrow (by simp) (fun b hb => Nat.le_of_eq (Option.some.inj hb))
  have HW1 := Lib.hid hw1
  rw [List.take_of_length_le (Nat.le_of_eq HL.out.symm)] at hown1
  have HOW := Lib.hid (show OwS w1 w.heap.size gx n cap l from ⟨hown1, HW.out⟩)
  have HB := Lib.hid hbel
  have hcap1 : n ≤ cap := hw1.2.2.1
  clear hown1 hgrow hat hw1 hbel HO HN HNL
  go_loop [3] (fun v => ∃ k : Nat, k ≤ n ∧ v = .slice (some ⟨gx, 0, none⟩) k cap ∧ TrimI l k) (fun v => match v with | .slice _ k _ => k | _ => 0)
  case atStart => exact ⟨n, Nat.le_refl _, by simp, fun i hi => wd_ge (by rw [← HL.out]; exact hi)⟩
  case round =>
   obtain ⟨k, hk, rfl, ht⟩ := hrel
   by_cases h0 : k = 0
   ·subst h0
    have HT := Lib.hid ht
    clear ht
    go_wp2
    go_ret
    refine ⟨_, _, _, rfl, ?_, HB.out⟩
    have := digs_of_take HW.out (Nat.zero_le _) HT.out (.inl rfl)
    rw [this]; exact HOW.out.cut (Nat.zero_le _)
   ·have hkp : 0 < k := by omega
    obtain ⟨g', o', e, hc⟩ := HW1.out.at_ (by omega)
    injection e with e; injection e with e1 e2
    subst e1 e2
    have hck := hc (k - 1) (by omega)
    rw [Nat.zero_add] at hck
    have hlt := HW1.out.lt (k - 1)
    have HT := Lib.hid ht
    generalize hx : wd l (k - 1) = x at *
    have HX := Lib.hid hx
    clear hc h0 ht hx
    by_cases hz : x = 0
    ·subst hz
     go_wp2
     go_round
     case rel => exact ⟨k - 1, by omega, rfl, fun i hi => by
      by_cases he : i = k - 1
      ·subst he; exact HX.out
      ·exact HT.out i (by omega)⟩
     case measure => dsimp only; omega
    ·have hz' : ((x : Int) == 0) = false := by simp; omega
     have HZ := Lib.hid hz
     clear hz
     go_wp2
     go_ret
     have hd := digs_of_take HW.out (by rw [← HL.out]; exact hk) HT.out (.inr (by rw [HX.out]; exact HZ.out))
     refine ⟨_, _, _, rfl, ?_, HB.out⟩
     rw [hd]; exact HOW.out.cut hk
def RetC (w : World) (B g cap : Nat) (l : List Nat) (e : Ending) (w' : World) : Prop := ∃ k, e = .returned (.slice (some ⟨g, 0, none⟩) k cap) ∧ OwS w' B g k cap l ∧ w = w'
theorem r_cut_o (w : World) (B g n cap : Nat) (l : List Nat) (h : OwS w B g n cap l) (hn : n ≤ 4398046511104) :
  Calls Tryz.prog 256 #[.slice (some ⟨g, 0, none⟩) n cap] w (RetC w B g cap (digs (val l))) := by
 have hcap := h.cap
 have HL := Lib.hid h.len
 have HO := Lib.hid h
 clear h
 go_enter Tryz.func256, Tryz.ntmps256
 go_wp2_with fail
 go_loop [0] (fun v => ∃ k : Nat, k ≤ n ∧ v = .slice (some ⟨g, 0, none⟩) k cap ∧ TrimI l k) (fun v => match v with | .slice _ k _ => k | _ => 0)
 case atStart => exact ⟨n, Nat.le_refl _, rfl, fun i hi => wd_ge (by rw [← HL.out]; exact hi)⟩
 case round =>
  obtain ⟨k, hk, rfl, ht⟩ := hrel
  by_cases h0 : k = 0
  ·subst h0
   have HT := Lib.hid ht
   clear ht
   go_wp2
   go_ret
   refine ⟨_, rfl, ?_, rfl⟩
   have := digs_of_take HO.out.2 (Nat.zero_le _) HT.out (.inl rfl)
   rw [this]; exact HO.out.cut (Nat.zero_le _)
  ·have hkp : 0 < k := by omega
   have hck := HO.out.cell (k - 1) (by omega)
   have hlt := wd_lt HO.out.2 (k - 1)
   have HT := Lib.hid ht
   generalize hx : wd l (k - 1) = x at *
   have HX := Lib.hid hx
   clear h0 ht hx
   by_cases hz : x = 0
   ·subst hz
    go_wp2
    go_round
    case rel => exact ⟨k - 1, by omega, rfl, fun i hi => by
     by_cases he : i = k - 1
     ·subst he; exact HX.out
     ·exact HT.out i (by omega)⟩
    case measure => dsimp only; omega
   ·have hz' : ((x : Int) == 0) = false := by simp; omega
    have HZ := Lib.hid hz
    clear hz
    go_wp2
    go_ret
    have hd := digs_of_take HO.out.2 (by rw [← HL.out]; exact hk) HT.out (.inr (by rw [HX.out]; exact HZ.out))
    refine ⟨_, rfl, ?_, rfl⟩
    rw [hd]; exact HO.out.cut hk
end Go.Proofs.YtoiijifnfdgfpaaGreatDoor

/- Walks: the reference's halving in place. -/
namespace Go.Proofs.YtoiijifnfdgfpaaGreatDoor
open Go Go.RowKit Bn
attribute [local go_sem ↓] Go.wp_at_zero Go.wp_at_succ

theorem half_nat {x y : Nat} (hx : x < 4294967296) : (x / 2 ||| y * 2147483648) % 4294967296 = x / 2 + (y % 2) * 2147483648 := by
  have h1 : x / 2 < 2 ^ 31 := by omega
  have h2 : y * 2147483648 ||| x / 2 = y * 2147483648 + x / 2 := by
    have := Nat.shiftLeft_add_eq_or_of_lt h1 y
    rw [Nat.shiftLeft_eq] at this
    exact this.symm
  rw [Nat.or_comm, h2]; omega
def HalveI (l L : List Nat) (j : Nat) : Prop := Wds L ∧ L.length = l.length ∧ (∀ i, j ≤ i → wd L i = wd l i) ∧ 2 * Sm (wd L) j + wd l 0 % 2 = Sm (wd l) j + wd l j % 2 * 4294967296 ^ j
theorem HalveI.start {l : List Nat} (h : Wds l) : HalveI l l 0 := ⟨h, rfl, fun _ _ => rfl, by simp [Sm]⟩
theorem HalveI.step {l L : List Nat} {j : Nat} (h : HalveI l L j) (hj : j < l.length) (hl : Wds l) : HalveI l (L.set j (wd l j / 2 + (wd l (j + 1) % 2) * 2147483648)) (j + 1) := by
  obtain ⟨h1, h2, h3, h4⟩ := h
  have hx := wd_lt hl j
  refine ⟨wds_set h1 j (by omega), by rw [List.length_set]; exact h2, fun i hi => ?_, ?_⟩
  · rw [wd_set, if_neg (by omega)]; exact h3 i (by omega)
  · rw [Sm_set_succ _ _ _ (by omega), Sm]
    generalize wd l j = x at *
    generalize wd l (j + 1) = y at *
    generalize wd l 0 = z at *
    rw [Nat.pow_succ]
    have e : 2 * ((x / 2 + y % 2 * 2147483648) * 4294967296 ^ j) + x % 2 * 4294967296 ^ j = x * 4294967296 ^ j + y % 2 * (4294967296 ^ j * 4294967296) := by
      have hx2 : x = 2 * (x / 2) + x % 2 := by omega
      generalize x / 2 = p at *
      generalize x % 2 = r at *
      subst hx2
      generalize 4294967296 ^ j = P
      grind
    omega
theorem HalveI.fin {l L : List Nat} (h : HalveI l L l.length) : val L = val l / 2 := by
  obtain ⟨h1, h2, h3, h4⟩ := h
  rw [Sm_ge L (by omega), Sm_ge l (Nat.le_refl _), wd_ge (Nat.le_refl _)] at h4
  omega
theorem half_word {x y : Nat} (hx : x < 4294967296) (hy : y < 4294967296) {s : Int} (hs : bits .or .u64 ((x : Int) / 2) ((y : Int) * 2147483648) = s) : IntKind.u32.wrap s = ((x / 2 + y % 2 * 2147483648 : Nat) : Int) := by
  have e1 : (x : Int) / 2 = ((x / 2 : Nat) : Int) := by omega
  have e2 : (y : Int) * 2147483648 = ((y * 2147483648 : Nat) : Int) := by simp
  rw [e1, e2, u64_or_nat _ _ (by omega) (by omega)] at hs
  subst hs
  rw [IntKind.wrap_u32]
  have := half_nat (y := y) hx
  omega
def RetH (w : World) (B g cap : Nat) (l : List Nat) (e : Ending) (w' : World) : Prop := ∃ k, e = .returned (.slice (some ⟨g, 0, none⟩) k cap) ∧ OwS w' B g k cap l ∧ Only g w w'
theorem r_halve_o (w : World) (B g n cap : Nat) (l : List Nat) (h : OwS w B g n cap l) (hn : n ≤ 1099511627776) :
  Calls Tryz.prog 253 #[.slice (some ⟨g, 0, none⟩) n cap] w (RetH w B g cap (digs (val l / 2))) := by
 have hcap := h.cap
 have hlen := h.len
 have HL := Lib.hid h.len
 have HW := Lib.hid h.2
 have HS := Lib.hid (HalveI.start h.2)
 have HO := Lib.hid h
 clear h hlen
 go_enter Tryz.func253, Tryz.ntmps253
 go_wp2_with fail
 go_loopw [6] (fun iv wr => ∃ (j : Nat) (L : List Nat), j ≤ n ∧ iv = .int .i64 (j : Nat) ∧ HalveI l L j ∧ OwS wr B g n cap L ∧ Only g w wr) (fun iv _ => n - (intOf iv).toNat)
 case atStart => exact ⟨0, l, Nat.zero_le _, rfl, HS.out, HO.out, Only.refl _ _⟩
 case round =>
  obtain ⟨j, L, hj, rfl, hI, hw, hon⟩ := hrel
  have HI := Lib.hid hI
  have HWr := Lib.hid hw
  have HOn := Lib.hid hon
  clear hI hw hon
  by_cases hlt : j < n
  ·obtain ⟨x, y, hx, hy⟩ : ∃ x y, wd l j = x ∧ wd l (j + 1) = y := ⟨_, _, rfl, rfl⟩
   have hx1 : x < 4294967296 := by rw [← hx]; exact wd_lt HW.out j
   have hy1 : y < 4294967296 := by rw [← hy]; exact wd_lt HW.out (j + 1)
   have HX := Lib.hid (show wd L j = x by rw [HI.out.2.2.1 j (Nat.le_refl _), hx])
   have HY := Lib.hid (show wd L (j + 1) = y by rw [HI.out.2.2.1 (j + 1) (by omega), hy])
   have HXY := Lib.hid (And.intro hx hy)
   have hck := HWr.out.cell j hlt
   have hfk := HWr.out.frozen j
   obtain ⟨s, hs⟩ : ∃ s, bits .or .u64 ((x : Int) / 2) ((y : Int) * 2147483648) = s := ⟨_, rfl⟩
   have e32 := half_word hx1 hy1 hs
   have HE := Lib.hid e32
   have ej : ((j : Int) + 1) = ((j + 1 : Nat) : Int) := by omega
   have HEJ := Lib.hid ej
   clear hx hy ej
   go_wp2_with (first
    | (go_at_call 258; (with_reducible refine (r_word_x _ (some ⟨g, 0, none⟩) n cap L ?_ j x HX.out (by omega)).mono ?_); exact HWr.out.toWd; rintro e w' ⟨rfl, rfl⟩)
    | (go_at_call 258; rw [HEJ.out]; (with_reducible refine (r_word_x _ (some ⟨g, 0, none⟩) n cap L ?_ (j + 1) y HY.out (by omega)).mono ?_); exact HWr.out.toWd; rintro e w' ⟨rfl, rfl⟩))
   go_roundw
   case rel =>
    have hst := HI.out.step (by rw [← HL.out]; exact hlt) HW.out
    rw [HXY.out.1, HXY.out.2] at hst
    exact ⟨j + 1, _, by omega, by go_num, hst, HWr.out.set j (by omega) (by omega), HOn.out.set j _⟩
   case measure => simp [intOf]; omega
  ·have hjn : j = n := by omega
   subst hjn
   have HV := Lib.hid (show val L = val l / 2 from HalveI.fin (by have := HI.out; rw [HL.out] at this; exact this))
   go_wp2_with fail
   (with_reducible refine (r_cut_o _ B g j cap L ?_ ?_).mono ?_); (exact HWr.out); (omega); rintro e w1 ⟨k, rfl, h1, rfl⟩
   go_wp2
   go_ret
   rw [HV.out] at h1
   exact ⟨k, rfl, h1, HOn.out⟩
end Go.Proofs.YtoiijifnfdgfpaaGreatDoor

/- Walks: the reference's subtraction in place. -/
namespace Go.Proofs.YtoiijifnfdgfpaaGreatDoor
open Go Go.RowKit Bn
attribute [local go_sem ↓] Go.wp_at_zero Go.wp_at_succ

theorem Only.wd_ {g : Nat} {w w' : World} (h : Only g w w') {A : Option Addr} {n c : Nat} {l : List Nat} (k : Wd w A n c l) (hne : ∀ ad, A = some ad → ad.block ≠ g) : Wd w' A n c l := by
  refine ⟨k.1, k.2.1, k.2.2.1, fun hn => ?_⟩
  obtain ⟨g1, o1, cur, fr, e, hb, hc⟩ := k.2.2.2 hn
  exact ⟨g1, o1, cur, fr, e, hb.same (h.2.2 _ (hne _ e)), hc⟩
def RetTk (w : World) (B g n cap : Nat) (v : Nat) (e : Ending) (w' : World) : Prop := ∃ L, e = .returned (.tuple #[]) ∧ OwS w' B g n cap L ∧ val L = v ∧ Only g w w'
def TakeI (l l' L : List Nat) (k br : Nat) : Prop := LessI l l' L k br ∧ L.length = l.length ∧ ∀ i, k ≤ i → wd L i = wd l i
theorem r_take_o (w : World) (B g n cap : Nat) (l : List Nat) (h : OwS w B g n cap l) (hn : n ≤ 1099511627776) (A' n' c' l') (wb : Wd w A' n' c' l') (hne : ∀ ad, A' = some ad → ad.block ≠ g) (hn' : n' ≤ n) (hv : val l' ≤ val l) :
  Calls Tryz.prog 255 #[.slice (some ⟨g, 0, none⟩) n cap, .slice A' n' c'] w (RetTk w B g n cap (val l - val l')) := by
 have hcap := h.cap
 have HL := Lib.hid h.len
 have HL' := Lib.hid wb.2.1
 have HW := Lib.hid h.2
 have HV := Lib.hid hv
 have HO := Lib.hid h
 have HWB := Lib.hid wb
 have HNE := Lib.hid hne
 clear h hv wb hne
 go_enter Tryz.func255, Tryz.ntmps255
 go_wp2_with fail
 go_loopw [4, 9] (fun cv iv wr => ∃ (k br : Nat) (L : List Nat), k ≤ n ∧ iv = .int .i64 (k : Nat) ∧ cv = .int .u64 (br : Nat) ∧ br ≤ 1 ∧ TakeI l l' L k br ∧ OwS wr B g n cap L ∧ Only g w wr) (fun _ iv _ => n - (intOf iv).toNat)
 case atStart => exact ⟨0, 0, l, Nat.zero_le _, rfl, rfl, by omega, ⟨⟨HW.out, by simp [Sm]⟩, rfl, fun _ _ => rfl⟩, HO.out, Only.refl _ _⟩
 case round =>
  obtain ⟨k, br, L, hk, rfl, rfl, hbr, hI, hw, hon⟩ := hrel
  have HI := Lib.hid hI
  have HWr := Lib.hid hw
  have HOn := Lib.hid hon
  clear hI hw hon
  by_cases hkM : k < n
  ·obtain ⟨x, y, hx, hy⟩ : ∃ x y, wd l k = x ∧ wd l' k = y := ⟨_, _, rfl, rfl⟩
   have hx1 : x < 4294967296 := by rw [← hx]; exact wd_lt HW.out k
   have hy1 : y < 4294967296 := by rw [← hy]; exact HWB.out.lt k
   have HX := Lib.hid (show wd L k = x by rw [HI.out.2.2 k (Nat.le_refl _), hx])
   have HY := Lib.hid hy
   have HXl := Lib.hid hx
   have hck := HWr.out.cell k hkM
   have hfk := HWr.out.frozen k
   clear hx hy
   go_wp2_with (first
    | (go_at_call 258; (with_reducible refine (r_word_x _ (some ⟨g, 0, none⟩) n cap L ?_ k x HX.out (by omega)).mono ?_); exact HWr.out.toWd; rintro e w' ⟨rfl, rfl⟩)
    | (go_at_call 258; (with_reducible refine (r_word_x _ A' n' c' l' ?_ k y HY.out (by omega)).mono ?_); exact HOn.out.wd_ HWB.out HNE.out; rintro e w' ⟨rfl, rfl⟩))
   go_roundw
   case rel =>
    refine ⟨k + 1, 1 - (4294967296 + x - y - br) / 4294967296, L.set k ((4294967296 + x - y - br) % 4294967296), by omega, by go_num, by congr 1; omega, by omega, ⟨⟨wds_set HI.out.1.1 _ (Nat.mod_lt _ (by omega)), ?_⟩, by rw [List.length_set]; exact HI.out.2.1, fun i hi => ?_⟩, HWr.out.set k (Nat.mod_lt _ (by omega)) (by omega), HOn.out.set k _⟩
    ·rw [Sm_set_succ _ _ _ (by rw [HI.out.2.1, ← HL.out]; exact hkM), Sm, Sm, HXl.out, HY.out, Nat.pow_succ]
     exact less_step HI.out.1.2 (by omega)
    ·rw [wd_set, if_neg (by omega)]; exact HI.out.2.2 i (by omega)
   case measure => simp [intOf]; omega
  ·have hkk : k = n := by omega
   subst hkk
   have hv2 : val L = val l - val l' := by
    have h1 := HI.out.1.2
    have h2 := val_lt HI.out.1.1
    have h3 := HV.out
    have h4 := HI.out.2.1
    have h5 := HL.out
    rw [h4, ← h5] at h2
    rw [Sm_ge L (by omega), Sm_ge l (by omega), Sm_ge l' (by rw [← HL'.out]; omega)] at h1
    rcases (show br = 0 ∨ br = 1 by omega) with rfl | rfl
    ·omega
    ·omega
   have HV2 := Lib.hid hv2
   clear hv2
   go_wp2_with fail
   go_end0
   exact ⟨L, rfl, HWr.out, HV2.out, HOn.out⟩
end Go.Proofs.YtoiijifnfdgfpaaGreatDoor

/- Walks: the reference's greatest common divisor, by halving and subtracting. -/
namespace Go.Proofs.YtoiijifnfdgfpaaGreatDoor
open Go Go.RowKit Bn
attribute [local go_sem ↓] Go.wp_at_zero Go.wp_at_succ

def Two (w wr : World) (N : Nat) (va vb : Value) (x y : Nat) : Prop := ∃ ga na ca gb nb cb, va = .slice (some ⟨ga, 0, none⟩) na ca ∧ vb = .slice (some ⟨gb, 0, none⟩) nb cb ∧ OwS wr w.heap.size ga na ca (digs x) ∧ OwS wr w.heap.size gb nb cb (digs y) ∧ ga ≠ gb ∧ Below w.heap.size w wr ∧ x < 4294967296 ^ N ∧ y < 4294967296 ^ N
theorem own_len {w : World} {B g n cap x N : Nat} (h : OwS w B g n cap (digs x)) (hx : x < 4294967296 ^ N) : n ≤ N := by rw [h.len]; exact length_digs_le hx
theorem own_pos {w : World} {B g n cap x : Nat} (h : OwS w B g n cap (digs x)) (hx : 0 < x) : 0 < n := by
  rw [h.len]; rcases Nat.eq_zero_or_pos (digs x).length with h1 | h1
  · have := digs_eq_nil.1 (List.eq_nil_of_length_eq_zero h1); omega
  · exact h1
theorem wd_digs0 (x : Nat) : wd (digs x) 0 = x % 4294967296 := by
  by_cases h : x = 0
  · subst h; rw [digs_zero]; rfl
  · rw [digs_pos h]; rfl
theorem own_head {w : World} {B g n cap x : Nat} (h : OwS w B g n cap (digs x)) (hx : 0 < x) : w.cell? ⟨g, 0, none⟩ = some (.int .u32 ((x % 4294967296 : Nat) : Int)) := by
  rw [← wd_digs0]; exact h.cell 0 (own_pos h hx)
theorem and_one (p : Nat) (hp : p < 4294967296) : Go.bits .and .u32 (p : Int) 1 = ((p % 2 : Nat) : Int) := by
  have := u32_and_nat p 1 hp (by decide)
  rw [Nat.and_one_is_mod] at this
  exact this
theorem even_u32 {p : Nat} (hp : p < 4294967296) (h : p % 2 = 0) : (Go.bits .and .u32 (p : Int) 1 == 0) = true := by rw [and_one p hp, h]; rfl
theorem odd_u32 {p : Nat} (hp : p < 4294967296) (h : p % 2 = 1) : (Go.bits .and .u32 (p : Int) 1 == 0) = false := by rw [and_one p hp, h]; rfl
theorem OwS.of_digs {w : World} {B g n cap v x : Nat} (h : OwS w B g n cap (digs (val (digs v) / x))) : OwS w B g n cap (digs (v / x)) := by rw [val_digs] at h; exact h
theorem Two.left {w wr w1 : World} {N ga na ca gb nb cb x y u k : Nat} (hT : Two w wr N (.slice (some ⟨ga, 0, none⟩) na ca) (.slice (some ⟨gb, 0, none⟩) nb cb) x y) (ho : OwS w1 w.heap.size ga k ca (digs u)) (hon : Only ga wr w1) (hu : u ≤ x) : Two w w1 N (.slice (some ⟨ga, 0, none⟩) k ca) (.slice (some ⟨gb, 0, none⟩) nb cb) u y := by
  obtain ⟨ga', na', ca', gb', nb', cb', e1, e2, oa, ob, hg, hbl, hxN, hyN⟩ := hT
  injection e1 with e1 e3 e4; injection e1 with e1; injection e1 with e1
  injection e2 with e2 e5 e6; injection e2 with e2; injection e2 with e2
  subst e1 e2 e3 e4 e5 e6
  exact ⟨ga, k, ca, gb, nb, cb, rfl, rfl, ho, hon.own ob (Ne.symm hg), hg, hbl.trans (hon.1.mono oa.base), Nat.lt_of_le_of_lt hu hxN, hyN⟩
theorem Two.swap {w wr : World} {N : Nat} {va vb : Value} {x y : Nat} (hT : Two w wr N va vb x y) : Two w wr N vb va y x := by
  obtain ⟨ga, na, ca, gb, nb, cb, e1, e2, oa, ob, hg, hbl, hxN, hyN⟩ := hT
  exact ⟨gb, nb, cb, ga, na, ca, e2, e1, ob, oa, Ne.symm hg, hbl, hyN, hxN⟩
theorem own_val {w : World} {B g n cap x : Nat} (h : OwS w B g n cap (digs x)) : valOf w (.slice (some ⟨g, 0, none⟩) n cap) = x := by rw [h.toWd.valOf, val_digs]
theorem Two.at_ {w wr : World} {N ga na ca gb nb cb x y : Nat} (hT : Two w wr N (.slice (some ⟨ga, 0, none⟩) na ca) (.slice (some ⟨gb, 0, none⟩) nb cb) x y) : OwS wr w.heap.size ga na ca (digs x) ∧ OwS wr w.heap.size gb nb cb (digs y) ∧ ga ≠ gb ∧ Below w.heap.size w wr ∧ x < 4294967296 ^ N ∧ y < 4294967296 ^ N := by
  obtain ⟨ga', na', ca', gb', nb', cb', e1, e2, h⟩ := hT
  injection e1 with e1 e3 e4; injection e1 with e1; injection e1 with e1
  injection e2 with e2 e5 e6; injection e2 with e2; injection e2 with e2
  subst e1 e2 e3 e4 e5 e6
  exact h
theorem OwS.belw {w w' : World} {B g n cap : Nat} {l : List Nat} (h : OwS w B g n cap l) (hb : Below w.heap.size w w') : OwS w' B g n cap l := by
  refine ⟨⟨h.1.1, ?_⟩, h.2⟩
  rcases h.1.2 with ⟨e, _⟩ | ⟨g', cap', cur, e, hb1, hgg, r⟩
  · cases e
  · exact .inr ⟨g', cap', cur, e, hb1, (hb.block g' (lt_of_block hgg)).trans hgg, r⟩
theorem Two.belw {w wr w1 : World} {N : Nat} {va vb : Value} {x y : Nat} (hT : Two w wr N va vb x y) (hb : Below wr.heap.size wr w1) : Two w w1 N va vb x y := by
  obtain ⟨ga, na, ca, gb, nb, cb, e1, e2, oa, ob, hg, hbl, hxN, hyN⟩ := hT
  exact ⟨ga, na, ca, gb, nb, cb, e1, e2, oa.belw hb, ob.belw hb, hg, hbl.trans (hb.mono hbl.size), hxN, hyN⟩
theorem digs_len_mono {a b : Nat} (h : a ≤ b) : (digs a).length ≤ (digs b).length := length_digs_le (Nat.lt_of_le_of_lt h (by have := val_lt (wds_digs b); rwa [val_digs] at this))
theorem Two.form {w wr : World} {N : Nat} {va vb : Value} {x y : Nat} (hT : Two w wr N va vb x y) : ∃ ga na ca gb nb cb, va = .slice (some ⟨ga, 0, none⟩) na ca ∧ vb = .slice (some ⟨gb, 0, none⟩) nb cb := by
  obtain ⟨ga, na, ca, gb, nb, cb, e1, e2, _⟩ := hT
  exact ⟨ga, na, ca, gb, nb, cb, e1, e2⟩
theorem two_bound {t x x0 N : Nat} (h : x0 = 2 ^ t * x) (hx : 0 < x) (hN : x0 < 4294967296 ^ N) : t < 32 * N := by
  have h1 : 2 ^ t ≤ x0 := by rw [h]; exact Nat.le_mul_of_pos_right _ hx
  have h2 : (4294967296 : Nat) ^ N = 2 ^ (32 * N) := by rw [Nat.pow_mul]
  rw [h2] at hN
  exact (Nat.pow_lt_pow_iff_right (by omega)).1 (Nat.lt_of_le_of_lt h1 hN)
theorem gcd_odd {x y : Nat} (h : ¬ (x % 2 = 0 ∧ y % 2 = 0)) : Nat.gcd x y % 2 = 1 := by
  rcases Nat.mod_two_eq_zero_or_one (Nat.gcd x y) with h1 | h1
  · exfalso
    have h2 : 2 ∣ Nat.gcd x y := Nat.dvd_of_mod_eq_zero h1
    exact h ⟨Nat.mod_eq_zero_of_dvd (Nat.dvd_trans h2 (Nat.gcd_dvd_left x y)), Nat.mod_eq_zero_of_dvd (Nat.dvd_trans h2 (Nat.gcd_dvd_right x y))⟩
  · exact h1
theorem gcd_half {u v G : Nat} (h : Nat.gcd u v = G) (hG : G % 2 = 1) (hu : u % 2 = 0) : Nat.gcd (u / 2) v = G := by
  have hv : v % 2 = 1 := by
    rcases Nat.mod_two_eq_zero_or_one v with h1 | h1
    · exfalso
      have h2 : 2 ∣ Nat.gcd u v := Nat.dvd_gcd (Nat.dvd_of_mod_eq_zero hu) (Nat.dvd_of_mod_eq_zero h1)
      rw [h] at h2
      have := Nat.mod_eq_zero_of_dvd h2
      omega
    · exact h1
  rw [gcd_left_even hu hv]; exact h
theorem r_gcd_c (w : World) (N : Nat) (hN : N ≤ 1099511627000) (A n c l) (wa : Wd w A n c l) (hn : n ≤ N) (A' n' c' l') (wb : Wd w A' n' c' l') (hn' : n' ≤ N) (h0 : val l ≠ 0) (h0' : val l' ≠ 0) :
  Calls Tryz.prog 236 #[.slice A n c, .slice A' n' c'] w (RetL w (digs (Nat.gcd (val l) (val l')))) := by
 have hvl := wa.vlt hn
 have hvl' := wb.vlt hn'
 obtain ⟨x0, hx0⟩ : ∃ x, val l = x := ⟨_, rfl⟩
 obtain ⟨y0, hy0⟩ : ∃ y, val l' = y := ⟨_, rfl⟩
 rw [hx0] at hvl h0
 rw [hy0] at hvl' h0'
 rw [hx0, hy0]
 have HX0 := Lib.hid hx0
 have HY0 := Lib.hid hy0
 have HVX := Lib.hid hvl
 have HVY := Lib.hid hvl'
 have hxp : 0 < x0 := by omega
 have hyp : 0 < y0 := by omega
 clear hx0 hy0 hvl hvl' h0 h0'
 go_enter Tryz.func236, Tryz.ntmps236
 go_wp2_with fail
 (with_reducible refine (r_trim_o _ A n c l ?_ ?_).mono ?_); (exact wa); (omega); rintro e w1 ⟨ga, na, ca, rfl, h1, hb1⟩
 rw [HX0.out] at h1
 go_wp2_with fail
 (with_reducible refine (r_trim_o _ A' n' c' l' ?_ ?_).mono ?_); (exact wb.belw hb1); (omega); rintro e w2 ⟨gb, nb, cb, rfl, h2, hb2⟩
 rw [HY0.out] at h2
 have hg : ga ≠ gb := by have := h1.lt; have := h2.base; omega
 have h1' : OwS w2 w.heap.size ga na ca (digs x0) := by
  refine ⟨⟨h1.1.1, ?_⟩, h1.2⟩
  rcases h1.1.2 with ⟨e, _⟩ | ⟨g', cap', cur, e, hb, hgg, r⟩
  ·cases e
  ·exact .inr ⟨g', cap', cur, e, hb, (hb2.block g' (lt_of_block hgg)).trans hgg, r⟩
 have h2' : OwS w2 w.heap.size gb nb cb (digs y0) := by
  refine ⟨⟨h2.1.1, ?_⟩, h2.2⟩
  rcases h2.1.2 with ⟨e, _⟩ | ⟨g', cap', cur, e, hb, r⟩
  ·cases e
  ·exact .inr ⟨g', cap', cur, e, Nat.le_trans hb1.size hb, r⟩
 have HT := Lib.hid (show Two w w2 N (.slice (some ⟨ga, 0, none⟩) na ca) (.slice (some ⟨gb, 0, none⟩) nb cb) x0 y0 from ⟨ga, na, ca, gb, nb, cb, rfl, rfl, h1', h2', hg, hb1.trans (hb2.mono hb1.size), HVX.out, HVY.out⟩)
 have ea : ((na : Int) == 0) = false := by have := own_pos h1 hxp; simp; omega
 have eb : ((nb : Int) == 0) = false := by have := own_pos h2 hyp; simp; omega
 clear h1 h2 h1' h2' hb1 hb2 hg
 go_wp2_with fail
 go_loopw [0, 1, 5] (fun va vb tv wr => ∃ (x y t : Nat), Two w wr N va vb x y ∧ tv = .int .i64 (t : Nat) ∧ 0 < x ∧ 0 < y ∧ x0 = 2 ^ t * x ∧ y0 = 2 ^ t * y) (fun va _ _ wr => valOf wr va)
 case atStart => exact ⟨x0, y0, 0, HT.out, rfl, hxp, hyp, by simp, by simp⟩
 case round =>
  obtain ⟨x, y, t, hT, rfl, hx, hy, hex, hey⟩ := hrel
  obtain ⟨ga, na, ca, gb, nb, cb, rfl, rfl⟩ := hT.form
  have HT := Lib.hid hT
  have hca := own_head hT.at_.1 hx
  have hcb := own_head hT.at_.2.1 hy
  have hna := own_pos hT.at_.1 hx
  have hnb := own_pos hT.at_.2.1 hy
  have hnaN := own_len hT.at_.1 hT.at_.2.2.2.2.1
  have hnbN := own_len hT.at_.2.1 hT.at_.2.2.2.2.2
  obtain ⟨p, hp⟩ : ∃ p, x % 4294967296 = p := ⟨_, rfl⟩
  obtain ⟨q, hq⟩ : ∃ q, y % 4294967296 = q := ⟨_, rfl⟩
  rw [hp] at hca
  rw [hq] at hcb
  have hp1 : p < 4294967296 := by omega
  have hq1 : q < 4294967296 := by omega
  have hpx : x % 2 = p % 2 := by omega
  have hqy : y % 2 = q % 2 := by omega
  have ht : t < 32 * N := two_bound hex hx HVX.out
  have HE := Lib.hid (And.intro hex hey)
  have HP := Lib.hid (And.intro hpx hqy)
  clear hex hey hp hq hpx hqy hT
  by_cases hpe : p % 2 = 0 ∧ q % 2 = 0
  ·have ea := even_u32 hp1 hpe.1
   have eb := even_u32 hq1 hpe.2
   have HPE := Lib.hid hpe
   clear hpe
   go_wp2_with fail
   (with_reducible refine (r_halve_o _ w.heap.size ga na ca (digs x) ?_ ?_).mono ?_); (exact HT.out.at_.1); (omega); rintro e w1 ⟨k1, rfl, o1, hon1⟩
   have HT1 := Lib.hid (HT.out.left o1.of_digs hon1 (Nat.div_le_self _ _))
   clear o1 hon1 hca hcb
   go_wp2_with fail
   (with_reducible refine (r_halve_o _ w.heap.size gb nb cb (digs y) ?_ ?_).mono ?_); (exact HT1.out.at_.2.1); (omega); rintro e w2 ⟨k2, rfl, o2, hon2⟩
   have HT2 := Lib.hid (HT1.out.swap.left o2.of_digs hon2 (Nat.div_le_self _ _)).swap
   clear o2 hon2
   go_wp2_with fail
   go_roundw
   case rel =>
    have h1 : x = 2 * (x / 2) := by have := HP.out.1; have := HPE.out.1; omega
    have h2 : y = 2 * (y / 2) := by have := HP.out.2; have := HPE.out.2; omega
    exact ⟨x / 2, y / 2, t + 1, HT2.out, by go_num, by omega, by omega, by rw [HE.out.1, Nat.pow_succ, Nat.mul_assoc, ← h1], by rw [HE.out.2, Nat.pow_succ, Nat.mul_assoc, ← h2]⟩
   case measure =>
    rw [own_val HT2.out.at_.1, own_val HT.out.at_.1]
    omega
  ·have hGo : Nat.gcd x y % 2 = 1 := gcd_odd (by intro h; exact hpe ⟨by have := HP.out.1; omega, by have := HP.out.2; omega⟩)
   obtain ⟨G, hG⟩ : ∃ G, Nat.gcd x y = G := ⟨_, rfl⟩
   rw [hG] at hGo
   have HG := Lib.hid (And.intro hG hGo)
   have hGp : 0 < G := by omega
   clear hG hGo
   rcases (show p % 2 = 1 ∨ (p % 2 = 0 ∧ q % 2 = 1) by omega) with h1 | ⟨h1, h2⟩
   ·have ea := odd_u32 hp1 h1
    clear hpe h1
    go_wp2_with fail
    clear ea
    try clear eb
    have e5 : 0 < nb := hnb
    clear hca hcb hp1 hq1 hna hnb hnaN hnbN
    go_loopw [0, 1] (fun va vb wr => ∃ (u v : Nat), Two w wr N va vb u v ∧ 0 < v ∧ Nat.gcd u v = G) (fun va vb wr => valOf wr va + valOf wr vb)
    case atStart => exact ⟨x, y, HT.out, hy, HG.out.1⟩
    case round =>
     rename_i wr2
     obtain ⟨u, v, hT2, hv, hgu⟩ := hrel
     obtain ⟨ga2, na2, ca2, gb2, nb2, cb2, rfl, rfl⟩ := hT2.form
     have HT2 := Lib.hid hT2
     have HGU := Lib.hid hgu
     clear hT2 hgu
     by_cases hu : u = 0
     ·subst hu
      have e0 : na2 = 0 := by rw [HT2.out.at_.1.len, digs_zero]; rfl
      subst e0
      have HVG := Lib.hid (show v = G by have := HGU.out; simpa using this)
      go_wp2_with fail
      go_loopw [1, 65] (fun vb iv wr => ∃ (j : Nat) (B : Option Addr) (m cc : Nat), vb = .slice B m cc ∧ Wd wr B m cc (digs (2 ^ j * G)) ∧ m ≤ N ∧ iv = .int .i64 (j : Nat) ∧ j ≤ t ∧ Below w.heap.size w wr) (fun _ iv _ => t - (intOf iv).toNat)
      case atStart =>
       have := HVG.out
       subst this
       exact ⟨0, _, _, _, rfl, by simpa using HT2.out.at_.2.1.toWd, own_len HT2.out.at_.2.1 HT2.out.at_.2.2.2.2.2, rfl, Nat.zero_le _, HT2.out.at_.2.2.2.1⟩
      case round =>
       obtain ⟨j, B, m, cc, rfl, hw, hm, rfl, hj, hbl⟩ := hrel
       have HW := Lib.hid hw
       have HB := Lib.hid hbl
       clear hw hbl
       by_cases hlt : j < t
       ·go_wp2_with fail
        (with_reducible refine (r_plus_c _ B m cc (digs (2 ^ j * G)) ?_ ?_ B m cc (digs (2 ^ j * G)) ?_ ?_).mono ?_); (exact HW.out); (omega); (exact HW.out); (omega); rintro e w4 ⟨B', m', cc', rfl, h4, hb4⟩
        have hz : val (digs (2 ^ j * G)) + val (digs (2 ^ j * G)) = 2 ^ (j + 1) * G := by rw [val_digs, Nat.pow_succ]; grind
        rw [hz] at h4
        have HZ := Lib.hid hz
        have H4 := Lib.hid h4
        clear hz h4
        go_wp2_with fail
        go_roundw
        case rel =>
         refine ⟨j + 1, B', m', cc', rfl, H4.out, ?_, by go_num, by omega, HB.out.trans (hb4.mono HB.out.size)⟩
         rw [H4.out.2.1]
         refine length_digs_le (Nat.lt_of_le_of_lt ?_ HVX.out)
         rw [HE.out.1]
         refine Nat.le_trans (Nat.mul_le_mul_right G (Nat.pow_le_pow_right (by omega) (show j + 1 ≤ t by omega))) (Nat.mul_le_mul_left _ ?_)
         rw [← HG.out.1]; exact Nat.gcd_le_left _ hx
        case measure => simp [intOf]; omega
       ·have hjt : j = t := by omega
        subst hjt
        go_wp2
        go_ret
        refine ⟨B, m, cc, rfl, ?_, HB.out⟩
        rw [HE.out.1, HE.out.2, Nat.gcd_mul_left, HG.out.1]
        exact HW.out
     ·have hup : 0 < u := by omega
      have hnap := own_pos HT2.out.at_.1 hup
      go_wp2_with fail
      go_loopw [0] (fun va wr => ∃ (u' : Nat), Two w wr N va (.slice (some ⟨gb2, 0, none⟩) nb2 cb2) u' v ∧ 0 < u' ∧ Nat.gcd u' v = G ∧ u' ≤ u) (fun va wr => valOf wr va)
      case atStart => exact ⟨u, HT2.out, hup, HGU.out, Nat.le_refl _⟩
      case round =>
       rename_i wr3
       obtain ⟨u', hT3, hu', hgu3, hle3⟩ := hrel
       obtain ⟨ga3, na3, ca3, _, _, _, rfl, _⟩ := hT3.form
       have HT3 := Lib.hid hT3
       have HGU3 := Lib.hid hgu3
       have hc3 := own_head hT3.at_.1 hu'
       have hn3 := own_pos hT3.at_.1 hu'
       have hn3N := own_len hT3.at_.1 hT3.at_.2.2.2.2.1
       obtain ⟨p3, hp3⟩ : ∃ p, u' % 4294967296 = p := ⟨_, rfl⟩
       rw [hp3] at hc3
       have hp31 : p3 < 4294967296 := by omega
       have hpu : u' % 2 = p3 % 2 := by omega
       clear hT3 hgu3 hp3
       by_cases hpe3 : p3 % 2 = 0
       ·have ea3 := even_u32 hp31 hpe3
        have HU2 := Lib.hid (show u' % 2 = 0 by omega)
        clear hpe3 hpu
        go_wp2_with fail
        (with_reducible refine (r_halve_o _ w.heap.size ga3 na3 ca3 (digs u') ?_ ?_).mono ?_); (exact HT3.out.at_.1); (omega); rintro e w4 ⟨k4, rfl, o4, hon4⟩
        have HT4 := Lib.hid (HT3.out.left o4.of_digs hon4 (Nat.div_le_self _ _))
        clear o4 hon4 hc3
        go_wp2_with fail
        go_roundw
        case rel =>
         have := HU2.out
         exact ⟨u' / 2, HT4.out, by omega, gcd_half HGU3.out HG.out.2 this, by omega⟩
        case measure =>
         rw [own_val HT4.out.at_.1, own_val HT3.out.at_.1]
         have := HU2.out
         omega
       ·have ea3 := odd_u32 hp31 (show p3 % 2 = 1 by omega)
        clear hpe3 hpu
        go_wp2_with fail
        clear ea3 hc3
        go_loopw [1] (fun vb wr => ∃ (v' : Nat), Two w wr N (.slice (some ⟨ga3, 0, none⟩) na3 ca3) vb u' v' ∧ 0 < v' ∧ Nat.gcd u' v' = G ∧ v' ≤ v) (fun vb wr => valOf wr vb)
        case atStart => exact ⟨v, HT3.out, hv, HGU3.out, Nat.le_refl _⟩
        case round =>
         rename_i wr5
         obtain ⟨v', hT5, hv', hgu5, hle5⟩ := hrel
         obtain ⟨_, _, _, gb5, nb5, cb5, _, rfl⟩ := hT5.form
         have HT5 := Lib.hid hT5
         have HGU5 := Lib.hid hgu5
         have hc5 := own_head hT5.at_.2.1 hv'
         have hn5 := own_pos hT5.at_.2.1 hv'
         have hn5N := own_len hT5.at_.2.1 hT5.at_.2.2.2.2.2
         obtain ⟨p5, hp5⟩ : ∃ p, v' % 4294967296 = p := ⟨_, rfl⟩
         rw [hp5] at hc5
         have hp51 : p5 < 4294967296 := by omega
         have hpv : v' % 2 = p5 % 2 := by omega
         clear hT5 hgu5 hp5
         by_cases hpe5 : p5 % 2 = 0
         ·have ea5 := even_u32 hp51 hpe5
          have HU2 := Lib.hid (show v' % 2 = 0 by omega)
          clear hpe5 hpv
          go_wp2_with fail
          (with_reducible refine (r_halve_o _ w.heap.size gb5 nb5 cb5 (digs v') ?_ ?_).mono ?_); (exact HT5.out.at_.2.1); (omega); rintro e w6 ⟨k6, rfl, o6, hon6⟩
          have HT6 := Lib.hid (HT5.out.swap.left o6.of_digs hon6 (Nat.div_le_self _ _)).swap
          clear o6 hon6 hc5
          go_wp2_with fail
          go_roundw
          case rel =>
           have := HU2.out
           exact ⟨v' / 2, HT6.out, by omega, by rw [Nat.gcd_comm]; exact gcd_half (by rw [Nat.gcd_comm]; exact HGU5.out) HG.out.2 this, by omega⟩
          case measure =>
           rw [own_val HT6.out.at_.2.1, own_val HT5.out.at_.2.1]
           have := HU2.out
           omega
         ·have ea5 := odd_u32 hp51 (show p5 % 2 = 1 by omega)
          clear hpe5 hpv
          go_wp2_with fail
          clear ea5 hc5
          (with_reducible refine (r_compare_c _ (some ⟨ga3, 0, none⟩) na3 ca3 (digs u') ?_ ?_ (some ⟨gb5, 0, none⟩) nb5 cb5 (digs v') ?_ ?_).mono ?_); (exact HT5.out.at_.1.toWd); (omega); (exact HT5.out.at_.2.1.toWd); (omega); rintro e w6 ⟨rfl, hb6⟩
          have HT6 := Lib.hid (HT5.out.belw hb6)
          clear hb6
          rw [val_digs, val_digs]
          by_cases hlt : u' < v'
          ·rw [show cmpN u' v' = -1 by unfold cmpN; rw [if_pos hlt]]
           have HLE := Lib.hid (Nat.le_of_lt hlt)
           clear hlt
           go_wp2_with fail
           (with_reducible refine (r_take_o _ w.heap.size gb5 nb5 cb5 (digs v') ?_ ?_ (some ⟨ga3, 0, none⟩) na3 ca3 (digs u') ?_ ?_ ?_ ?_).mono ?_); (exact HT6.out.at_.2.1); (omega); (exact HT6.out.at_.1.toWd); (intro ad e; injection e with e; subst e; exact HT6.out.at_.2.2.1); (rw [HT6.out.at_.2.1.len, HT6.out.at_.1.len]; exact digs_len_mono HLE.out); (rw [val_digs, val_digs]; exact HLE.out); rintro e w7 ⟨L, rfl, o7, hv7, hon7⟩
           rw [val_digs, val_digs] at hv7
           have HV7 := Lib.hid hv7
           have HO7 := Lib.hid o7
           have HON7 := Lib.hid hon7
           clear hv7 o7 hon7
           go_wp2_with fail
           (with_reducible refine (r_cut_o _ w.heap.size gb5 nb5 cb5 L ?_ ?_).mono ?_); (exact HO7.out); (omega); rintro e w8 ⟨k8, rfl, o8, rfl⟩
           rw [HV7.out] at o8
           have HT8 := Lib.hid (HT6.out.swap.left o8 HON7.out (Nat.sub_le _ _))
           clear o8
           go_wp2_with fail
           go_roundw
           case rel => exact ⟨v' - u', u', HT8.out, hu', by rw [gcd_sub HLE.out]; rw [Nat.gcd_comm]; exact HGU5.out⟩
           case measure =>
            rw [own_val HT8.out.at_.1, own_val HT8.out.at_.2.1, own_val HT2.out.at_.1, own_val HT2.out.at_.2.1]
            have := HLE.out
            omega

          ·have hcn : decide (cmpN u' v' < 0) = false := by unfold cmpN; rw [if_neg hlt]; split <;> decide
           have HLE := Lib.hid (Nat.le_of_not_lt hlt)
           obtain ⟨cm, hcm⟩ : ∃ cm, cmpN u' v' = cm := ⟨_, rfl⟩
           rw [hcm] at hcn ⊢
           clear hlt hcm
           go_wp2_with fail
           (with_reducible refine (r_take_o _ w.heap.size ga3 na3 ca3 (digs u') ?_ ?_ (some ⟨gb5, 0, none⟩) nb5 cb5 (digs v') ?_ ?_ ?_ ?_).mono ?_); (exact HT6.out.at_.1); (omega); (exact HT6.out.at_.2.1.toWd); (intro ad e; injection e with e; subst e; exact Ne.symm HT6.out.at_.2.2.1); (rw [HT6.out.at_.1.len, HT6.out.at_.2.1.len]; exact digs_len_mono HLE.out); (rw [val_digs, val_digs]; exact HLE.out); rintro e w7 ⟨L, rfl, o7, hv7, hon7⟩
           rw [val_digs, val_digs] at hv7
           have HV7 := Lib.hid hv7
           have HO7 := Lib.hid o7
           have HON7 := Lib.hid hon7
           clear hv7 o7 hon7
           go_wp2_with fail
           (with_reducible refine (r_cut_o _ w.heap.size ga3 na3 ca3 L ?_ ?_).mono ?_); (exact HO7.out); (omega); rintro e w8 ⟨k8, rfl, o8, rfl⟩
           rw [HV7.out] at o8
           have HT8 := Lib.hid (HT6.out.left o8 HON7.out (Nat.sub_le _ _))
           clear o8
           go_wp2_with fail
           go_roundw
           case rel => exact ⟨u' - v', v', HT8.out, hv', by rw [gcd_sub HLE.out]; exact HGU5.out⟩
           case measure =>
            rw [own_val HT8.out.at_.1, own_val HT8.out.at_.2.1, own_val HT2.out.at_.1, own_val HT2.out.at_.2.1]
            have := HLE.out
            omega


   ·have ea := even_u32 hp1 h1
    have eb := odd_u32 hq1 h2
    clear h2
    clear hpe h1
    go_wp2_with fail
    clear ea
    try clear eb
    have e5 : 0 < nb := hnb
    clear hca hcb hp1 hq1 hna hnb hnaN hnbN
    go_loopw [0, 1] (fun va vb wr => ∃ (u v : Nat), Two w wr N va vb u v ∧ 0 < v ∧ Nat.gcd u v = G) (fun va vb wr => valOf wr va + valOf wr vb)
    case atStart => exact ⟨x, y, HT.out, hy, HG.out.1⟩
    case round =>
     rename_i wr2
     obtain ⟨u, v, hT2, hv, hgu⟩ := hrel
     obtain ⟨ga2, na2, ca2, gb2, nb2, cb2, rfl, rfl⟩ := hT2.form
     have HT2 := Lib.hid hT2
     have HGU := Lib.hid hgu
     clear hT2 hgu
     by_cases hu : u = 0
     ·subst hu
      have e0 : na2 = 0 := by rw [HT2.out.at_.1.len, digs_zero]; rfl
      subst e0
      have HVG := Lib.hid (show v = G by have := HGU.out; simpa using this)
      go_wp2_with fail
      go_loopw [1, 65] (fun vb iv wr => ∃ (j : Nat) (B : Option Addr) (m cc : Nat), vb = .slice B m cc ∧ Wd wr B m cc (digs (2 ^ j * G)) ∧ m ≤ N ∧ iv = .int .i64 (j : Nat) ∧ j ≤ t ∧ Below w.heap.size w wr) (fun _ iv _ => t - (intOf iv).toNat)
      case atStart =>
       have := HVG.out
       subst this
       exact ⟨0, _, _, _, rfl, by simpa using HT2.out.at_.2.1.toWd, own_len HT2.out.at_.2.1 HT2.out.at_.2.2.2.2.2, rfl, Nat.zero_le _, HT2.out.at_.2.2.2.1⟩
      case round =>
       obtain ⟨j, B, m, cc, rfl, hw, hm, rfl, hj, hbl⟩ := hrel
       have HW := Lib.hid hw
       have HB := Lib.hid hbl
       clear hw hbl
       by_cases hlt : j < t
       ·go_wp2_with fail
        (with_reducible refine (r_plus_c _ B m cc (digs (2 ^ j * G)) ?_ ?_ B m cc (digs (2 ^ j * G)) ?_ ?_).mono ?_); (exact HW.out); (omega); (exact HW.out); (omega); rintro e w4 ⟨B', m', cc', rfl, h4, hb4⟩
        have hz : val (digs (2 ^ j * G)) + val (digs (2 ^ j * G)) = 2 ^ (j + 1) * G := by rw [val_digs, Nat.pow_succ]; grind
        rw [hz] at h4
        have HZ := Lib.hid hz
        have H4 := Lib.hid h4
        clear hz h4
        go_wp2_with fail
        go_roundw
        case rel =>
         refine ⟨j + 1, B', m', cc', rfl, H4.out, ?_, by go_num, by omega, HB.out.trans (hb4.mono HB.out.size)⟩
         rw [H4.out.2.1]
         refine length_digs_le (Nat.lt_of_le_of_lt ?_ HVX.out)
         rw [HE.out.1]
         refine Nat.le_trans (Nat.mul_le_mul_right G (Nat.pow_le_pow_right (by omega) (show j + 1 ≤ t by omega))) (Nat.mul_le_mul_left _ ?_)
         rw [← HG.out.1]; exact Nat.gcd_le_left _ hx
        case measure => simp [intOf]; omega
       ·have hjt : j = t := by omega
        subst hjt
        go_wp2
        go_ret
        refine ⟨B, m, cc, rfl, ?_, HB.out⟩
        rw [HE.out.1, HE.out.2, Nat.gcd_mul_left, HG.out.1]
        exact HW.out
     ·have hup : 0 < u := by omega
      have hnap := own_pos HT2.out.at_.1 hup
      go_wp2_with fail
      go_loopw [0] (fun va wr => ∃ (u' : Nat), Two w wr N va (.slice (some ⟨gb2, 0, none⟩) nb2 cb2) u' v ∧ 0 < u' ∧ Nat.gcd u' v = G ∧ u' ≤ u) (fun va wr => valOf wr va)
      case atStart => exact ⟨u, HT2.out, hup, HGU.out, Nat.le_refl _⟩
      case round =>
       rename_i wr3
       obtain ⟨u', hT3, hu', hgu3, hle3⟩ := hrel
       obtain ⟨ga3, na3, ca3, _, _, _, rfl, _⟩ := hT3.form
       have HT3 := Lib.hid hT3
       have HGU3 := Lib.hid hgu3
       have hc3 := own_head hT3.at_.1 hu'
       have hn3 := own_pos hT3.at_.1 hu'
       have hn3N := own_len hT3.at_.1 hT3.at_.2.2.2.2.1
       obtain ⟨p3, hp3⟩ : ∃ p, u' % 4294967296 = p := ⟨_, rfl⟩
       rw [hp3] at hc3
       have hp31 : p3 < 4294967296 := by omega
       have hpu : u' % 2 = p3 % 2 := by omega
       clear hT3 hgu3 hp3
       by_cases hpe3 : p3 % 2 = 0
       ·have ea3 := even_u32 hp31 hpe3
        have HU2 := Lib.hid (show u' % 2 = 0 by omega)
        clear hpe3 hpu
        go_wp2_with fail
        (with_reducible refine (r_halve_o _ w.heap.size ga3 na3 ca3 (digs u') ?_ ?_).mono ?_); (exact HT3.out.at_.1); (omega); rintro e w4 ⟨k4, rfl, o4, hon4⟩
        have HT4 := Lib.hid (HT3.out.left o4.of_digs hon4 (Nat.div_le_self _ _))
        clear o4 hon4 hc3
        go_wp2_with fail
        go_roundw
        case rel =>
         have := HU2.out
         exact ⟨u' / 2, HT4.out, by omega, gcd_half HGU3.out HG.out.2 this, by omega⟩
        case measure =>
         rw [own_val HT4.out.at_.1, own_val HT3.out.at_.1]
         have := HU2.out
         omega
       ·have ea3 := odd_u32 hp31 (show p3 % 2 = 1 by omega)
        clear hpe3 hpu
        go_wp2_with fail
        clear ea3 hc3
        go_loopw [1] (fun vb wr => ∃ (v' : Nat), Two w wr N (.slice (some ⟨ga3, 0, none⟩) na3 ca3) vb u' v' ∧ 0 < v' ∧ Nat.gcd u' v' = G ∧ v' ≤ v) (fun vb wr => valOf wr vb)
        case atStart => exact ⟨v, HT3.out, hv, HGU3.out, Nat.le_refl _⟩
        case round =>
         rename_i wr5
         obtain ⟨v', hT5, hv', hgu5, hle5⟩ := hrel
         obtain ⟨_, _, _, gb5, nb5, cb5, _, rfl⟩ := hT5.form
         have HT5 := Lib.hid hT5
         have HGU5 := Lib.hid hgu5
         have hc5 := own_head hT5.at_.2.1 hv'
         have hn5 := own_pos hT5.at_.2.1 hv'
         have hn5N := own_len hT5.at_.2.1 hT5.at_.2.2.2.2.2
         obtain ⟨p5, hp5⟩ : ∃ p, v' % 4294967296 = p := ⟨_, rfl⟩
         rw [hp5] at hc5
         have hp51 : p5 < 4294967296 := by omega
         have hpv : v' % 2 = p5 % 2 := by omega
         clear hT5 hgu5 hp5
         by_cases hpe5 : p5 % 2 = 0
         ·have ea5 := even_u32 hp51 hpe5
          have HU2 := Lib.hid (show v' % 2 = 0 by omega)
          clear hpe5 hpv
          go_wp2_with fail
          (with_reducible refine (r_halve_o _ w.heap.size gb5 nb5 cb5 (digs v') ?_ ?_).mono ?_); (exact HT5.out.at_.2.1); (omega); rintro e w6 ⟨k6, rfl, o6, hon6⟩
          have HT6 := Lib.hid (HT5.out.swap.left o6.of_digs hon6 (Nat.div_le_self _ _)).swap
          clear o6 hon6 hc5
          go_wp2_with fail
          go_roundw
          case rel =>
           have := HU2.out
           exact ⟨v' / 2, HT6.out, by omega, by rw [Nat.gcd_comm]; exact gcd_half (by rw [Nat.gcd_comm]; exact HGU5.out) HG.out.2 this, by omega⟩
          case measure =>
           rw [own_val HT6.out.at_.2.1, own_val HT5.out.at_.2.1]
           have := HU2.out
           omega
         ·have ea5 := odd_u32 hp51 (show p5 % 2 = 1 by omega)
          clear hpe5 hpv
          go_wp2_with fail
          clear ea5 hc5
          (with_reducible refine (r_compare_c _ (some ⟨ga3, 0, none⟩) na3 ca3 (digs u') ?_ ?_ (some ⟨gb5, 0, none⟩) nb5 cb5 (digs v') ?_ ?_).mono ?_); (exact HT5.out.at_.1.toWd); (omega); (exact HT5.out.at_.2.1.toWd); (omega); rintro e w6 ⟨rfl, hb6⟩
          have HT6 := Lib.hid (HT5.out.belw hb6)
          clear hb6
          rw [val_digs, val_digs]
          by_cases hlt : u' < v'
          ·rw [show cmpN u' v' = -1 by unfold cmpN; rw [if_pos hlt]]
           have HLE := Lib.hid (Nat.le_of_lt hlt)
           clear hlt
           go_wp2_with fail
           (with_reducible refine (r_take_o _ w.heap.size gb5 nb5 cb5 (digs v') ?_ ?_ (some ⟨ga3, 0, none⟩) na3 ca3 (digs u') ?_ ?_ ?_ ?_).mono ?_); (exact HT6.out.at_.2.1); (omega); (exact HT6.out.at_.1.toWd); (intro ad e; injection e with e; subst e; exact HT6.out.at_.2.2.1); (rw [HT6.out.at_.2.1.len, HT6.out.at_.1.len]; exact digs_len_mono HLE.out); (rw [val_digs, val_digs]; exact HLE.out); rintro e w7 ⟨L, rfl, o7, hv7, hon7⟩
           rw [val_digs, val_digs] at hv7
           have HV7 := Lib.hid hv7
           have HO7 := Lib.hid o7
           have HON7 := Lib.hid hon7
           clear hv7 o7 hon7
           go_wp2_with fail
           (with_reducible refine (r_cut_o _ w.heap.size gb5 nb5 cb5 L ?_ ?_).mono ?_); (exact HO7.out); (omega); rintro e w8 ⟨k8, rfl, o8, rfl⟩
           rw [HV7.out] at o8
           have HT8 := Lib.hid (HT6.out.swap.left o8 HON7.out (Nat.sub_le _ _))
           clear o8
           go_wp2_with fail
           go_roundw
           case rel => exact ⟨v' - u', u', HT8.out, hu', by rw [gcd_sub HLE.out]; rw [Nat.gcd_comm]; exact HGU5.out⟩
           case measure =>
            rw [own_val HT8.out.at_.1, own_val HT8.out.at_.2.1, own_val HT2.out.at_.1, own_val HT2.out.at_.2.1]
            have := HLE.out
            omega

          ·have hcn : decide (cmpN u' v' < 0) = false := by unfold cmpN; rw [if_neg hlt]; split <;> decide
           have HLE := Lib.hid (Nat.le_of_not_lt hlt)
           obtain ⟨cm, hcm⟩ : ∃ cm, cmpN u' v' = cm := ⟨_, rfl⟩
           rw [hcm] at hcn ⊢
           clear hlt hcm
           go_wp2_with fail
           (with_reducible refine (r_take_o _ w.heap.size ga3 na3 ca3 (digs u') ?_ ?_ (some ⟨gb5, 0, none⟩) nb5 cb5 (digs v') ?_ ?_ ?_ ?_).mono ?_); (exact HT6.out.at_.1); (omega); (exact HT6.out.at_.2.1.toWd); (intro ad e; injection e with e; subst e; exact Ne.symm HT6.out.at_.2.2.1); (rw [HT6.out.at_.1.len, HT6.out.at_.2.1.len]; exact digs_len_mono HLE.out); (rw [val_digs, val_digs]; exact HLE.out); rintro e w7 ⟨L, rfl, o7, hv7, hon7⟩
           rw [val_digs, val_digs] at hv7
           have HV7 := Lib.hid hv7
           have HO7 := Lib.hid o7
           have HON7 := Lib.hid hon7
           clear hv7 o7 hon7
           go_wp2_with fail
           (with_reducible refine (r_cut_o _ w.heap.size ga3 na3 ca3 L ?_ ?_).mono ?_); (exact HO7.out); (omega); rintro e w8 ⟨k8, rfl, o8, rfl⟩
           rw [HV7.out] at o8
           have HT8 := Lib.hid (HT6.out.left o8 HON7.out (Nat.sub_le _ _))
           clear o8
           go_wp2_with fail
           go_roundw
           case rel => exact ⟨u' - v', v', HT8.out, hv', by rw [gcd_sub HLE.out]; exact HGU5.out⟩
           case measure =>
            rw [own_val HT8.out.at_.1, own_val HT8.out.at_.2.1, own_val HT2.out.at_.1, own_val HT2.out.at_.2.1]
            have := HLE.out
            omega


end Go.Proofs.YtoiijifnfdgfpaaGreatDoor

/- Walks: the reference's greatest common divisor, of any lists. -/
namespace Go.Proofs.YtoiijifnfdgfpaaGreatDoor
open Go Go.RowKit Bn
attribute [local go_sem ↓] Go.wp_at_zero Go.wp_at_succ
theorem r_gcd_z (w : World) (A n c l) (wa : Wd w A n c l) (hn : n ≤ 1099511627000) (A' n' c' l') (wb : Wd w A' n' c' l') (hn' : n' ≤ 1099511627000) (h0 : val l = 0 ∨ val l' = 0) :
  Calls Tryz.prog 236 #[.slice A n c, .slice A' n' c'] w (RetL w (digs (Nat.gcd (val l) (val l')))) := by
 have H0 := Lib.hid h0
 clear h0
 go_enter Tryz.func236, Tryz.ntmps236
 go_wp2_with fail
 (with_reducible refine (r_trim_o _ A n c l ?_ ?_).mono ?_); (exact wa); (omega); rintro e w1 ⟨ga, na, ca, rfl, h1, hb1⟩
 go_wp2_with fail
 (with_reducible refine (r_trim_o _ A' n' c' l' ?_ ?_).mono ?_); (exact wb.belw hb1); (omega); rintro e w2 ⟨gb, nb, cb, rfl, h2, hb2⟩
 have HB := Lib.hid (hb1.trans (hb2.mono hb1.size))
 have H1 := Lib.hid (h1.belw hb2)
 have H2 := Lib.hid h2
 have hna := h1.len
 have hnb := h2.len
 clear h1 h2 hb1 hb2
 by_cases hz : val l = 0
 ·have e : na = 0 := by rw [hna, hz, digs_zero]; rfl
  have HG := Lib.hid (show digs (Nat.gcd (val l) (val l')) = digs (val l') by rw [hz, Nat.gcd_zero_left])
  subst e
  clear hna hnb hz
  go_wp2_with fail
  go_ret
  exact ⟨_, _, _, rfl, by rw [HG.out]; exact H2.out.toWd, HB.out⟩
 ·have hz2 : val l' = 0 := H0.out.resolve_left hz
  have e : nb = 0 := by rw [hnb, hz2, digs_zero]; rfl
  have hp : 0 < na := by
   rw [hna]; rcases Nat.eq_zero_or_pos (digs (val l)).length with h | h
   ·exact absurd (digs_eq_nil.1 (List.eq_nil_of_length_eq_zero h)) hz
   ·exact h
  have e1 : ((na : Int) == 0) = false := by simp; omega
  have HG := Lib.hid (show digs (Nat.gcd (val l) (val l')) = digs (val l) by rw [hz2, Nat.gcd_zero_right])
  subst e
  clear hna hnb hz hz2
  go_wp2_with fail
  go_ret
  exact ⟨_, _, _, rfl, by rw [HG.out]; exact H1.out.toWd, HB.out⟩
theorem r_gcd_any (w : World) (A n c l) (wa : Wd w A n c l) (hn : n ≤ 1099511627000) (A' n' c' l') (wb : Wd w A' n' c' l') (hn' : n' ≤ 1099511627000) :
    Calls Tryz.prog 236 #[.slice A n c, .slice A' n' c'] w (RetL w (digs (Nat.gcd (val l) (val l')))) := by
  by_cases h : val l = 0
  · exact r_gcd_z w A n c l wa hn A' n' c' l' wb hn' (.inl h)
  · by_cases h' : val l' = 0
    · exact r_gcd_z w A n c l wa hn A' n' c' l' wb hn' (.inr h')
    · exact r_gcd_c w 1099511627000 (Nat.le_refl _) A n c l wa hn A' n' c' l' wb hn' h h'
end Go.Proofs.YtoiijifnfdgfpaaGreatDoor

/- Walks: the reference's Gcd. -/
namespace Go.Proofs.YtoiijifnfdgfpaaGreatDoor
open Go Go.RowKit Bn
attribute [local go_sem ↓] Go.wp_at_zero Go.wp_at_succ
theorem gcd_len {w w' : World} {A : Option Addr} {n c : Nat} {l : List Nat} {A' : Option Addr} {n' c' : Nat} {l' : List Nat} {N : Nat} (h : Wd w A n c l) (h' : Wd w' A' n' c' l') (hn : n ≤ N) (hn' : n' ≤ N) : (digs (Nat.gcd (val l) (val l'))).length ≤ N := length_digs_le (gcd_lt (h.vlt hn) (h'.vlt hn'))
theorem r_Gcd_C (w : World) (b : Bool) (A n c l) (wa : Wd w A n c l) (hn : n ≤ 1099511627000) (b' : Bool) (A' n' c' l') (wb : Wd w A' n' c' l') (hn' : n' ≤ 1099511627000) :
    Calls Tryz.prog 203 #[.agg #[.bool b, .slice A n c], .agg #[.bool b', .slice A' n' c']] w (RetW w (wh (Nat.gcd (WD.z ⟨b, l⟩).natAbs (WD.z ⟨b', l'⟩).natAbs : Nat))) := by
  have HL := Lib.hid wa.2.1
  have HL' := Lib.hid wb.2.1
  rw [z_nat, z_nat]
  go_enter Tryz.func203, Tryz.ntmps203
  go_wp2_with fail
  have b0 : Below w.heap.size w (((w.alloc (.cells #[.bool b, .slice A n c] 123)).alloc (.cells #[.bool b', .slice A' n' c'] 123)).alloc (.cells #[.bool false, .slice none 0 0] 123)) := ((((Below.refl _ _).alloc (Nat.le_refl _) _).alloc (by simp) _).alloc (by simp; omega) _)
  generalize hW0 : (((w.alloc (.cells #[.bool b, .slice A n c] 123)).alloc (.cells #[.bool b', .slice A' n' c'] 123)).alloc (.cells #[.bool false, .slice none 0 0] 123)) = W0 at b0 ⊢
  have c00 : W0.cell? ⟨w.heap.size, 0, none⟩ = some (.bool b) := by subst hW0; simp [go_sem]
  have f00 : W0.frozen? ⟨w.heap.size, 0, none⟩ = false := by subst hW0; simp [go_sem]
  have c01 : W0.cell? ⟨w.heap.size, 1, none⟩ = some (.slice A n c) := by subst hW0; simp [go_sem]
  have f01 : W0.frozen? ⟨w.heap.size, 1, none⟩ = false := by subst hW0; simp [go_sem]
  have c10 : W0.cell? ⟨w.heap.size + 1, 0, none⟩ = some (.bool b') := by subst hW0; simp [go_sem]
  have f10 : W0.frozen? ⟨w.heap.size + 1, 0, none⟩ = false := by subst hW0; simp [go_sem]
  have c11 : W0.cell? ⟨w.heap.size + 1, 1, none⟩ = some (.slice A' n' c') := by subst hW0; simp [go_sem]
  have f11 : W0.frozen? ⟨w.heap.size + 1, 1, none⟩ = false := by subst hW0; simp [go_sem]
  have c20 : W0.cell? ⟨w.heap.size + 1 + 1, 0, none⟩ = some (.bool false) := by subst hW0; simp [go_sem]
  have f20 : W0.frozen? ⟨w.heap.size + 1 + 1, 0, none⟩ = false := by subst hW0; simp [go_sem]
  have c21 : W0.cell? ⟨w.heap.size + 1 + 1, 1, none⟩ = some (.slice none 0 0) := by subst hW0; simp [go_sem]
  have f21 : W0.frozen? ⟨w.heap.size + 1 + 1, 1, none⟩ = false := by subst hW0; simp [go_sem]
  have x0 : Box W0 w.heap.size 123 := by subst hW0; exact ((boxAt _ _ _ (by simp)).alloc _).alloc _
  have x1 : Box W0 (w.heap.size + 1) 123 := by subst hW0; exact (boxAt _ _ _ (by simp)).alloc _
  have x2 : Box W0 (w.heap.size + 1 + 1) 123 := by subst hW0; exact boxAt _ _ _ (by simp)
  have hm0 : Made (w.heap.size + 1 + 1) (w.heap.size + 1 + 1 + 1) 2 W0 := by subst hW0; exact made1 (by simp)
  have hs0 : w.heap.size + 1 + 1 + 1 ≤ W0.heap.size := by subst hW0; simp
  clear hW0
  have wa := wa.belw b0
  have wb := wb.belw b0
  have r0 : Below W0.heap.size W0 W0 := brefl _
  have hRB : w.heap.size + 1 + 1 ≤ w.heap.size + 1 + 1 + 1 := by omega
  go_region_held3 (fun w' => Sees (w.heap.size + 1 + 1) W0 w') (first | exact Sees.of (Nat.le_trans hRB hs0) (by assumption) | exact Sees.of (Nat.le_trans hRB hs0) (below_drewN (by assumption) _) | exact (Sees.set (Sees.of (Nat.le_trans hRB hs0) (by assumption)) (by simp)) | exact (Sees.set (Sees.set (Sees.of (Nat.le_trans hRB hs0) (by assumption)) (by simp)) (by simp)))
    (first
      | (go_at_call 233; (with_reducible refine (r_mag_c _ b A n c l ?_ ?_).mono ?_); (exact wa); (omega); rintro e w1 ⟨A1, n1, c1, rfl, h1, hb1⟩; replace hb1 := bnext (below_drewN (brefl _) 1) hb1; have r1 := bnext r0 hb1; replace wa := wa.belw hb1; replace wb := wb.belw hb1)
      | (go_at_call 233; (with_reducible refine (r_mag_c _ b' A' n' c' l' ?_ ?_).mono ?_); (exact wb); (omega); rintro e w2 ⟨A2, n2, c2, rfl, h2, hb2⟩; have r2 := bnext r1 hb2; replace wa := wa.belw hb2; replace wb := wb.belw hb2; replace h1 := h1.belw hb2)
      | (go_at_call 236; (with_reducible refine (r_gcd_any _ A1 n1 c1 (WD.m ⟨b, l⟩) ?_ ?_ A2 n2 c2 (WD.m ⟨b', l'⟩) ?_ ?_).mono ?_); (exact h1); (exact h1.m_len (by rw [← HL.out]; exact hn)); (exact h2); (exact h2.m_len (by rw [← HL'.out]; exact hn')); rintro e w3 ⟨A3, n3, c3, rfl, h3, hb3⟩; have r3 := bnext r2 hb3; replace wa := wa.belw hb3; replace wb := wb.belw hb3; replace h1 := h1.belw hb3; replace h2 := h2.belw hb3)
      | (go_at_call 201; (with_reducible refine (r_form_e _ false A3 n3 c3 (digs (Nat.gcd (val (WD.m ⟨b, l⟩)) (val (WD.m ⟨b', l'⟩)))) (Nat.gcd (val (WD.m ⟨b, l⟩)) (val (WD.m ⟨b', l'⟩)) : Nat) ?_ ?_ ?_).mono ?_); (exact h3); (rw [h3.2.1]; exact gcd_len h1 h2 (Nat.le_trans (h1.m_len (by rw [← HL.out]; exact hn)) (by decide)) (Nat.le_trans (h2.m_len (by rw [← HL'.out]; exact hn')) (by decide))); (rw [val_digs]; rfl); rintro e w4 ⟨A4, n4, c4, rfl, h4, hb4⟩; have r4 := bnext r3 hb4; replace wa := wa.belw hb4; replace wb := wb.belw hb4; replace h1 := h1.belw hb4; replace h2 := h2.belw hb4; replace h3 := h3.belw hb4; obtain ⟨⟨sc, sf⟩, sr, sz⟩ := Seen.of (by omega) hs0 hm0 r4))
  clear hRB
  go_wp2_with fail
  refine bodyPost_ret (v := .agg #[.bool _, .slice A4 n4 c4]) (by simp [results, Tryz.results203, go_sem, sr]; rfl) rfl ?_
  have x := x2.below r4
  refine retW ?_ ?_ ?_
  · rfl
  · exact h4.keep (kp2 x (by decide) _ _ _ _)
  · exact ((b0.trans (r4.mono b0.size)).setCell (by dsimp only; omega) _).setCell (by dsimp only; omega) _
theorem r01_gcd (w : World) (b A n c z k) (h : IZ w b A n c z k) (b' A' n' c' z' k') (h' : IZ w b' A' n' c' z' k') (hk : k + k' ≤ 1000000000) : Calls Tryz.prog 203 #[.agg #[.bool b, .slice A n c], .agg #[.bool b', .slice A' n' c']] w (RetI w (Nat.gcd z.natAbs z'.natAbs : Nat) (k + k')) := by
  have hz := h.mono (Nat.le_add_right k k') |>.lt
  have hz' := h'.mono (Nat.le_add_left k' k) |>.lt
  obtain ⟨l, h1, rfl, h3⟩ := h
  obtain ⟨l', h1', rfl, h3'⟩ := h'
  exact (r_Gcd_C w b A n c l h1 (by omega) b' A' n' c' l' h1' (by omega)).mono fun _ _ r => r.i (by simpa using gcd_lt hz hz')
end Go.Proofs.YtoiijifnfdgfpaaGreatDoor

/- Walks: the reference: fractions, what is valid. -/
namespace Go.Proofs.YtoiijifnfdgfpaaGreatDoor
open Go Go.RowKit Bn
attribute [local go_sem ↓] Go.wp_at_zero Go.wp_at_succ
theorem g_one (w : World)  :
  Calls Tryz.prog 160 #[] w (RetI w 1 1) := by
 go_enter Tryz.func160, Tryz.ntmps160
 go_wp2_with fail
 (with_reducible refine (r01_of1 _ (1) ?_ ?_).mono ?_); (omega); (omega); rintro e w1 ⟨b1, A1, n1, c1, rfl, h1, hb1⟩
 have q1 := hb1.q1
 have x1a : Blk w1 w.heap.size 123 #[.bool false, .slice none 0 0] := (blkAt _ _ _ (by simp)).below hb1 (by simp)
 have bw1 := (brefl w).trans (q1.mono (brefl w).size)
 have lw1 := hb1.l1
 clear q1
 have cx1a := x1a.c2
 have fx1a := x1a.f2
 have lx1a := lts0 x1a.lt
 go_wp2_with fail
 refine bodyPost_ret (v := .agg #[.bool b1, .slice A1 n1 c1]) (by simp [results, Tryz.results160, go_sem, *] <;> trivial) rfl ?_
 exact ⟨b1, A1, n1, c1, rfl, h1.keep (((Kp.refl w1).sb w.heap.size 0 x1a.box (by decide) (.bool b1)).sb w.heap.size 1 (x1a.box.set ⟨w.heap.size, 0, none⟩ (.bool b1)) (by decide) (.slice A1 n1 c1)), ((bw1.sc w.heap.size 0 (by omega) (.bool b1)).sc w.heap.size 1 (by omega) (.slice A1 n1 c1))⟩
end Go.Proofs.YtoiijifnfdgfpaaGreatDoor

/- Walks: fractions: the parts. -/
namespace Go.Proofs.YtoiijifnfdgfpaaGreatDoor
open Go Go.RowKit Bn
attribute [local go_sem ↓] Go.wp_at_zero Go.wp_at_succ

section
variable {w : World} {b : Bool} {A : Option Addr} {n c : Nat} {D : Option Addr} {m e : Nat} {a : RD} {k : Nat}
theorem q_bad (h : a.ok = false ∨ a.num = []) : a.q.num = 0 ∧ (a.q.den : Int) = 1 := by
  have e1 : (a.ok && a.num != []) = false := by rcases h with h | h <;> simp [h]
  have e2 : a.q = 0 := by unfold RD.q RD.n RD.d; rw [e1]; simp
  rw [e2]; exact ⟨rfl, rfl⟩
theorem q_ok (hn : Wds a.num) (hd : Wds a.den) (ho : a.ok = true) (h0 : a.num ≠ []) : a.num = (wh a.q.num).mag ∧ a.neg = (wh a.q.num).neg ∧ a.den = (wh (a.q.den : Int)).mag := by
  have h1 := rd_of_ok hn hd ho
  have h2 : a.q.num ≠ 0 := by
    intro e
    have : (rd a.q).num = [] := by unfold rd; simp [e, digs_zero]
    rw [h1] at this; exact h0 this
  have h3 : (rd a.q).den = digs a.q.den := by unfold rd; simp [h2]
  refine ⟨?_, ?_, ?_⟩
  · have : (rd a.q).num = digs a.q.num.natAbs := rfl
    rw [h1] at this; exact this
  · have : (rd a.q).neg = decide (a.q.num < 0) := rfl
    rw [h1] at this; exact this
  · rw [h1] at h3; exact h3
theorem den_pos_ (h : QD w b A n c D m e a k) (ho : a.ok = true) (h0 : a.num ≠ []) : 0 < m := by
  rcases Nat.eq_zero_or_pos m with h1 | h1
  · have e2 : a.den = [] := List.eq_nil_of_length_eq_zero (by rw [← h.2.2.1.2.1, h1])
    unfold RD.ok at ho
    rw [if_neg (by intro x; exact h0 x.1)] at ho
    simp [e2] at ho
  · exact h1
end
abbrev SeesY (G g2 g3 : Nat) (v0 v1 : Value) (W0 W : World) : Prop := ((∀ b o, b < G → b ≠ g2 → b ≠ g3 → W.cell? ⟨b, o, none⟩ = W0.cell? ⟨b, o, none⟩) ∧ (∀ b o, b < G → W.frozen? ⟨b, o, none⟩ = W0.frozen? ⟨b, o, none⟩)) ∧ G ≤ W.heap.size ∧ W.cell? ⟨g2, 0, none⟩ = some v0 ∧ W.cell? ⟨g2, 1, none⟩ = some v1
theorem SeesY.of {G g2 g3 : Nat} {v0 v1 : Value} {W0 W : World} (h : G ≤ W0.heap.size) (hb : Below W0.heap.size W0 W) (hg : g2 < W0.heap.size) (h0 : W0.cell? ⟨g2, 0, none⟩ = some v0) (h1 : W0.cell? ⟨g2, 1, none⟩ = some v1) : SeesY G g2 g3 v0 v1 W0 W :=
  ⟨⟨fun b o hlt _ _ => (bcell hb).1 b o (Nat.lt_of_lt_of_le hlt h), fun b o hlt => (bcell hb).2 b o (Nat.lt_of_lt_of_le hlt h)⟩, Nat.le_trans h hb.size, ((bcell hb).1 _ _ hg).trans h0, ((bcell hb).1 _ _ hg).trans h1⟩
theorem cell_set_same {w : World} {p : Addr} {u : Value} (v : Value) (h : w.cell? p = some u) (hp : p.spot = none) : (w.setCell p v).cell? p = some v := by
  obtain ⟨b, o, s⟩ := p
  simp only at hp; subst hp
  unfold World.cell? at h ⊢
  simp only [World.setCell, Array.getElem?_modify, if_true] at h ⊢
  cases hh : w.heap[b]? with
  | none => rw [hh] at h; simp at h
  | some ob =>
    rw [hh] at h
    cases ob <;> simp_all
    obtain ⟨hl, _⟩ := Array.getElem?_eq_some_iff.1 h
    simp [hl]
theorem SeesY.set2 {G g2 g3 : Nat} {v0 v1 : Value} {W0 W : World} (h : SeesY G g2 g3 v0 v1 W0 W) {i : Nat} {u : Value} (hi : (i = 0 ∧ u = v0) ∨ (i = 1 ∧ u = v1)) : SeesY G g2 g3 v0 v1 W0 (W.setCell ⟨g2, i, none⟩ u) := by
  refine ⟨⟨fun b o hlt hne h3 => ?_, fun b o hlt => ?_⟩, ?_, ?_, ?_⟩
  · rw [← h.1.1 b o hlt hne h3]; unfold World.cell?; rw [Below.heap_setCell _ _ _ b hne]
  · rw [← h.1.2 b o hlt]; exact World.frozen?_setCell ..
  · have := h.2.1; simp [World.setCell]; exact this
  · rcases hi with ⟨rfl, rfl⟩ | ⟨rfl, rfl⟩
    · exact cell_set_same _ h.2.2.1 rfl
    · rw [World.cell?_setCell_other _ _ _ _ (by simp)]; exact h.2.2.1
  · rcases hi with ⟨rfl, rfl⟩ | ⟨rfl, rfl⟩
    · rw [World.cell?_setCell_other _ _ _ _ (by simp)]; exact h.2.2.2
    · exact cell_set_same _ h.2.2.2 rfl
theorem SeesY.set3 {G g2 g3 : Nat} {v0 v1 : Value} {W0 W : World} (h : SeesY G g2 g3 v0 v1 W0 W) {i : Nat} {u : Value} (hg : g2 ≠ g3) : SeesY G g2 g3 v0 v1 W0 (W.setCell ⟨g3, i, none⟩ u) := by
  refine ⟨⟨fun b o hlt hne h3 => ?_, fun b o hlt => ?_⟩, ?_, ?_, ?_⟩
  · rw [← h.1.1 b o hlt hne h3]; unfold World.cell?; rw [Below.heap_setCell _ _ _ b h3]
  · rw [← h.1.2 b o hlt]; exact World.frozen?_setCell ..
  · have := h.2.1; simp [World.setCell]; exact this
  · rw [World.cell?_setCell_other _ _ _ _ (by simp <;> omega)]; exact h.2.2.1
  · rw [World.cell?_setCell_other _ _ _ _ (by simp <;> omega)]; exact h.2.2.2
theorem f_valid_e (w : World) (b : Bool) (A : Option Addr) (n c : Nat) (D : Option Addr) (m e : Nat) (a : RD) (k : Nat) (v : Bool) (h : QD w b A n c D m e a k) (hk : k ≤ 300000000) (hv : a.ok = v) :
    Calls Tryz.prog 33 #[.agg #[.bool b, .slice A n c, .slice D m e]] w (RetV w (.bool v)) := by subst hv; exact f_valid w b A n c D m e a k h hk
theorem f_parts_1 (w : World) (b A n c D m e a k) (h : QD w b A n c D m e a k) (h0 : 0 < k) (hk : k ≤ 300000000) (ho : a.ok = false) :
  Calls Tryz.prog 136 #[.agg #[.bool b, .slice A n c, .slice D m e]] w (RetII w a.q.num a.q.den k) := by
 have HK := Lib.hid hk
 have HO := Lib.hid ho
 have hq : a.q.num = 0 ∧ (a.q.den : Int) = 1 := q_bad (.inl ho)
 rw [hq.1, hq.2]
 clear hq ho
 have HP := Lib.hid h0
 go_enter Tryz.func136, Tryz.ntmps136
 go_wp2_with fail
 (with_reducible refine (f_valid_e _ b A n c D m e a k false ?_ ?_ ?_).mono ?_); (exact h.belw (((((Below.refl _ _).alloc (Nat.le_refl _) _).alloc (by simp) _).alloc (by simp <;> omega) _))); (exact HK.out); (exact HO.out); rintro e w1 ⟨rfl, hb1⟩
 have q1 := hb1.q3
 replace h := h.belw q1
 have x1a : Blk w1 w.heap.size 72 #[.bool b, .slice A n c, .slice D m e] := (((blkAt _ _ _ (by simp)).alloc _).alloc _).below hb1 (by simp <;> omega)
 have x1b := ((blkAt _ _ _ (g := w.heap.size + 1) (by simp)).alloc _).below hb1 (by simp <;> omega)
 have x1c := (blkAt _ _ _ (g := w.heap.size + 1 + 1) (by simp)).below hb1 (by simp)
 have bw1 := (brefl w).trans (q1.mono (brefl w).size)
 have lw1 := hb1.l3
 clear q1
 have cx1a := x1a.c3
 have lx1a := lts0 x1a.lt
 go_wp2_with fail
 (with_reducible refine (f_one _).mono ?_); rintro e w2 ⟨b2, A2, n2, c2, rfl, h2, q2⟩
 clear cx1a lx1a
 replace h := h.belw q2
 replace x1a := x1a.b q2
 replace x1b := x1b.b q2
 replace x1c := x1c.b q2
 have bw2 := bw1.trans (q2.mono bw1.size)
 have lw2 := q2.size
 clear q2 bw1
 have cx1b := x1b.c2
 have fx1b := x1b.f2
 have lx1b := lts1 x1b.lt
 have cx1c := x1c.c2
 have fx1c := x1c.f2
 have lx1c := lts2 x1c.lt
 go_wp2_with fail
 refine bodyPost_ret (v := .tuple #[.agg #[.bool false, .slice none 0 0], .agg #[.bool b2, .slice A2 n2 c2]]) (by simp [results, Tryz.results136, go_sem, *] <;> trivial) rfl ?_
 exact ⟨false, none, 0, 0, b2, A2, n2, c2, rfl, IV.zero _ _, (h2.keep (((((Kp.refl w2).sb (w.heap.size + 1) 0 x1b.box (by decide) (.bool false)).sb (w.heap.size + 1) 1 (x1b.box.set ⟨w.heap.size + 1, 0, none⟩ (.bool false)) (by decide) (.slice none 0 0)).sb (w.heap.size + 1 + 1) 0 ((x1c.box.set ⟨w.heap.size + 1, 0, none⟩ (.bool false)).set ⟨w.heap.size + 1, 1, none⟩ (.slice none 0 0)) (by decide) (.bool b2)).sb (w.heap.size + 1 + 1) 1 (((x1c.box.set ⟨w.heap.size + 1, 0, none⟩ (.bool false)).set ⟨w.heap.size + 1, 1, none⟩ (.slice none 0 0)).set ⟨w.heap.size + 1 + 1, 0, none⟩ (.bool b2)) (by decide) (.slice A2 n2 c2))).mono (by first | exact HP.out | omega), ((((bw2.sc (w.heap.size + 1) 0 (by omega) (.bool false)).sc (w.heap.size + 1) 1 (by omega) (.slice none 0 0)).sc (w.heap.size + 1 + 1) 0 (by omega) (.bool b2)).sc (w.heap.size + 1 + 1) 1 (by omega) (.slice A2 n2 c2))⟩
theorem f_parts_2 (w : World) (b A n c D m e a k) (h : QD w b A n c D m e a k) (h0 : 0 < k) (hk : k ≤ 300000000) (ho : a.ok = true) (hn : n = 0) :
  Calls Tryz.prog 136 #[.agg #[.bool b, .slice A n c, .slice D m e]] w (RetII w a.q.num a.q.den k) := by
 have HK := Lib.hid hk
 have HO := Lib.hid ho
 have hq : a.q.num = 0 ∧ (a.q.den : Int) = 1 := q_bad (.inr (List.eq_nil_of_length_eq_zero (by rw [← h.2.1.2.1, hn])))
 rw [hq.1, hq.2]
 clear hq ho
 subst hn
 have HP := Lib.hid h0
 go_enter Tryz.func136, Tryz.ntmps136
 go_wp2_with fail
 (with_reducible refine (f_valid_e _ b A 0 c D m e a k true ?_ ?_ ?_).mono ?_); (exact h.belw (((((Below.refl _ _).alloc (Nat.le_refl _) _).alloc (by simp) _).alloc (by simp <;> omega) _))); (exact HK.out); (exact HO.out); rintro e w1 ⟨rfl, hb1⟩
 have q1 := hb1.q3
 replace h := h.belw q1
 have x1a : Blk w1 w.heap.size 72 #[.bool b, .slice A 0 c, .slice D m e] := (((blkAt _ _ _ (by simp)).alloc _).alloc _).below hb1 (by simp <;> omega)
 have x1b := ((blkAt _ _ _ (g := w.heap.size + 1) (by simp)).alloc _).below hb1 (by simp <;> omega)
 have x1c := (blkAt _ _ _ (g := w.heap.size + 1 + 1) (by simp)).below hb1 (by simp)
 have bw1 := (brefl w).trans (q1.mono (brefl w).size)
 have lw1 := hb1.l3
 clear q1
 have cx1a := x1a.c3
 have lx1a := lts0 x1a.lt
 go_wp2_with fail
 (with_reducible refine (f_one _).mono ?_); rintro e w2 ⟨b2, A2, n2, c2, rfl, h2, q2⟩
 clear cx1a lx1a
 replace h := h.belw q2
 replace x1a := x1a.b q2
 replace x1b := x1b.b q2
 replace x1c := x1c.b q2
 have bw2 := bw1.trans (q2.mono bw1.size)
 have lw2 := q2.size
 clear q2 bw1
 have cx1b := x1b.c2
 have fx1b := x1b.f2
 have lx1b := lts1 x1b.lt
 have cx1c := x1c.c2
 have fx1c := x1c.f2
 have lx1c := lts2 x1c.lt
 go_wp2_with fail
 refine bodyPost_ret (v := .tuple #[.agg #[.bool false, .slice none 0 0], .agg #[.bool b2, .slice A2 n2 c2]]) (by simp [results, Tryz.results136, go_sem, *] <;> trivial) rfl ?_
 exact ⟨false, none, 0, 0, b2, A2, n2, c2, rfl, IV.zero _ _, (h2.keep (((((Kp.refl w2).sb (w.heap.size + 1) 0 x1b.box (by decide) (.bool false)).sb (w.heap.size + 1) 1 (x1b.box.set ⟨w.heap.size + 1, 0, none⟩ (.bool false)) (by decide) (.slice none 0 0)).sb (w.heap.size + 1 + 1) 0 ((x1c.box.set ⟨w.heap.size + 1, 0, none⟩ (.bool false)).set ⟨w.heap.size + 1, 1, none⟩ (.slice none 0 0)) (by decide) (.bool b2)).sb (w.heap.size + 1 + 1) 1 (((x1c.box.set ⟨w.heap.size + 1, 0, none⟩ (.bool false)).set ⟨w.heap.size + 1, 1, none⟩ (.slice none 0 0)).set ⟨w.heap.size + 1 + 1, 0, none⟩ (.bool b2)) (by decide) (.slice A2 n2 c2))).mono (by first | exact HP.out | omega), ((((bw2.sc (w.heap.size + 1) 0 (by omega) (.bool false)).sc (w.heap.size + 1) 1 (by omega) (.slice none 0 0)).sc (w.heap.size + 1 + 1) 0 (by omega) (.bool b2)).sc (w.heap.size + 1 + 1) 1 (by omega) (.slice A2 n2 c2))⟩
theorem f_parts_3 (w : World) (b A n c D m e a k) (h : QD w b A n c D m e a k) (h0 : 0 < k) (hk : k ≤ 300000000) (ho : a.ok = true) (hn : a.num ≠ []) :
  Calls Tryz.prog 136 #[.agg #[.bool b, .slice A n c, .slice D m e]] w (RetII w a.q.num a.q.den k) := by
 have HK := Lib.hid hk
 have HO := Lib.hid ho
 obtain ⟨e1, e2, e3⟩ := q_ok h.2.1.1 h.2.2.1.1 ho hn
 have HE := Lib.hid (And.intro e1 (And.intro e2 e3))
 have hnp : 0 < n := by rcases Nat.eq_zero_or_pos n with h1 | h1; exact absurd (List.eq_nil_of_length_eq_zero (by rw [← h.2.1.2.1, h1])) hn; exact h1
 have hmp : 0 < m := den_pos_ h ho hn
 have en : ((n : Int) == 0) = false := by simp; omega
 have hkn : n ≤ 300000000 := Nat.le_trans h.2.2.2.1 hk
 have hkm : m ≤ 300000000 := Nat.le_trans h.2.2.2.2 hk
 obtain ⟨i0, hi0, hz0, hz1, hz2⟩ := info_parts info_u32
 obtain ⟨gA, oA, eA, hlA, _⟩ := h.2.1.at2 hnp
 obtain ⟨gD, oD, eD, hlD, _⟩ := h.2.2.1.at2 hmp
 subst eA eD
 clear ho hn e1 e2 e3 hk
 go_enter Tryz.func136, Tryz.ntmps136
 go_wp2_with fail
 (with_reducible refine (f_valid_e _ b (some ⟨gA, oA, none⟩) n c (some ⟨gD, oD, none⟩) m e a k true ?_ ?_ ?_).mono ?_); (exact h.belw (((((Below.refl _ _).alloc (Nat.le_refl _) _).alloc (by simp) _).alloc (by simp <;> omega) _))); (exact HK.out); (exact HO.out); rintro e w1 ⟨rfl, hb1⟩
 have q1 := hb1.q3
 replace h := h.belw q1
 have x1a : Blk w1 w.heap.size 72 #[.bool b, .slice (some ⟨gA, oA, none⟩) n c, .slice (some ⟨gD, oD, none⟩) m e] := (((blkAt _ _ _ (by simp)).alloc _).alloc _).below hb1 (by simp <;> omega)
 have x1b := ((blkAt _ _ _ (g := w.heap.size + 1) (by simp)).alloc _).below hb1 (by simp <;> omega)
 have x1c := (blkAt _ _ _ (g := w.heap.size + 1 + 1) (by simp)).below hb1 (by simp)
 have bw1 := (brefl w).trans (q1.mono (brefl w).size)
 have lw1 := hb1.l3
 clear q1
 obtain ⟨cx1aa, cx1ab, cx1ac⟩ := x1a.c3
 obtain ⟨lx1aa, lx1ab, lx1ac, lx1ad⟩ := lts0 x1a.lt
 have cx1b := x1b.c2
 have fx1b := x1b.f2
 have lx1b := lts1 x1b.lt
 obtain ⟨cx1ca, cx1cb⟩ := x1c.c2
 obtain ⟨fx1ca, fx1cb⟩ := x1c.f2
 obtain ⟨lx1ca, lx1cb, lx1cc, lx1cd⟩ := lts2 x1c.lt
 go_wp2_with fail
 have howna := World.ownsRow_lit (e := 82) (size := 1) w1 #[] 0 (Nat.le_refl _) (by simp [maxLen]) rfl
 have hnewsa := ((h.2.1).keep ((Kp.refl w1).alloc (.cells #[] 82))).news (by omega) (Nat.le_refl _)
 have hnla : (words (a.num.take n)).length = n * 1 := by rw [words_len, List.length_take]; have := (h.2.1).2.1; omega
 have HOa := Lib.hid howna
 have HNa := Lib.hid hnewsa
 have HNLa := Lib.hid hnla
 clear howna hnewsa hnla
 have nf0 : ¬ w.heap.size = w.heap.size + 1 := by omega
 have nf2 : ¬ w.heap.size + 1 + 1 = w.heap.size + 1 := by omega
 have nfa : ¬ w1.heap.size = w.heap.size + 1 := by have := x1b.lt; omega
 go_region_held3 (fun w' => SeesX w1.heap.size (w.heap.size + 1) w1 w') (first | exact SeesX.of (Nat.le_refl _) (below_drewN (brefl _) 1) | exact SeesX.of (Nat.le_refl _) ((below_drewN (brefl _) 1).alloc (Nat.le_refl _) _) | exact SeesX.of (Nat.le_refl _) (((brefl _).alloc (Nat.le_refl _) _).drew) | exact SeesX.of (Nat.le_refl _) (by assumption) | exact SeesX.set (SeesX.of (Nat.le_refl _) (by assumption)) | exact SeesX.set (SeesX.set (SeesX.of (Nat.le_refl _) (by assumption)))) ((refine step_append_lies _ rfl _ _ _ rfl w1.heap.size 82 i0 (.int .u32 0) 1 4 Tryz.underlying70 hi0 hz0 hz1 hz2 rfl (by omega) _ 0 [] rfl (by first | exact HOa.out | exact HOa.out.drew) ⟨gA, oA, none⟩ n c (words (a.num.take n)) rfl HNLa.out HNa.out (words_one _) (by omega) (by unfold maxLen; omega) (by omega) (by simp) (w1.heap.size + 1) (by simp) ?_; intro ga capa va howna hgrowa hata hlta; have qa : Below w1.heap.size w1 va := (((Below.refl _ _).alloc (Nat.le_refl _) _).drew).grown hgrowa (by simp) (fun b hb => Nat.le_of_eq (Option.some.inj hb)); have y1 : Blk va (w.heap.size + 1) 123 #[.bool false, .slice none 0 0] := x1b.below qa x1b.lt; obtain ⟨cy10, cy11⟩ := y1.c2; obtain ⟨fy10, fy11⟩ := y1.f2))
 simp only [Nat.zero_add, List.nil_append] at howna
 have hwa : Wd va (some ⟨ga, 0, none⟩) n capa a.num := by
  have x := Wd.of_own howna (Wds.take (h.2.1).1 n)
  rwa [List.take_of_length_le (Nat.le_of_eq (h.2.1).2.1.symm)] at x
 clear howna hgrowa hata HOa HNa HNLa
 clear cx1aa cx1ab cx1ac lx1aa lx1ab lx1ac lx1ad cx1b fx1b lx1b cx1ca fx1ca cx1cb fx1cb lx1ca lx1cb lx1cc lx1cd
 clear cy10 cy11 fy10 fy11 nfa nf0 nf2
 replace x1a := x1a.b qa
 replace x1c := x1c.b qa
 replace h := h.belw qa
 have bwa : Below w.heap.size w va := bw1.trans (qa.mono bw1.size)
 have lwa : w1.heap.size ≤ va.heap.size := qa.size
 clear x1b
 go_wp2_with fail
 have p5 := (((Kp.refl va).sb (w.heap.size + 1) 0 y1.box (by decide) (.bool b)).sb (w.heap.size + 1) 1 (y1.box.set ⟨w.heap.size + 1, 0, none⟩ (.bool b)) (by decide) (.slice (some ⟨ga, 0, none⟩) n capa))
 have bw5 := ((bwa.sc (w.heap.size + 1) 0 (by omega) (.bool b)).sc (w.heap.size + 1) 1 (by omega) (.slice (some ⟨ga, 0, none⟩) n capa))
 replace x1a := ((x1a.fr (w.heap.size + 1) 0 (by omega) (.bool b)).fr (w.heap.size + 1) 1 (by omega) (.slice (some ⟨ga, 0, none⟩) n capa))
 replace y1 : Blk ((va.setCell ⟨w.heap.size + 1, 0, none⟩ (.bool b)).setCell ⟨w.heap.size + 1, 1, none⟩ (.slice (some ⟨ga, 0, none⟩) n capa)) (w.heap.size + 1) 123 #[.bool b, .slice (some ⟨ga, 0, none⟩) n capa] := ((y1.set_at 0 (.bool b) #[.bool b, .slice none 0 0] (by simp)).set_at 1 (.slice (some ⟨ga, 0, none⟩) n capa) #[.bool b, .slice (some ⟨ga, 0, none⟩) n capa] (by simp))
 replace x1c := ((x1c.fr (w.heap.size + 1) 0 (by omega) (.bool b)).fr (w.heap.size + 1) 1 (by omega) (.slice (some ⟨ga, 0, none⟩) n capa))
 have lw5 : va.heap.size + 0 ≤ ((va.setCell ⟨w.heap.size + 1, 0, none⟩ (.bool b)).setCell ⟨w.heap.size + 1, 1, none⟩ (.slice (some ⟨ga, 0, none⟩) n capa)).heap.size := by simp
 generalize hE5 : ((va.setCell ⟨w.heap.size + 1, 0, none⟩ (.bool b)).setCell ⟨w.heap.size + 1, 1, none⟩ (.slice (some ⟨ga, 0, none⟩) n capa)) = w5 at p5 bw5 lw5 x1a y1 x1c ⊢
 clear hE5
 replace h := h.keep p5
 replace hwa := hwa.keep p5
 obtain ⟨cx1aa, cx1ab, cx1ac⟩ := x1a.c3
 obtain ⟨lx1aa, lx1ab, lx1ac, lx1ad⟩ := lts0 x1a.lt
 obtain ⟨cy1_0, cy1_1⟩ := y1.c2
 have fy1 := y1.f2
 have ly1 := lts1 y1.lt
 obtain ⟨cx1ca, cx1cb⟩ := x1c.c2
 obtain ⟨fx1ca, fx1cb⟩ := x1c.f2
 obtain ⟨lx1ca, lx1cb, lx1cc, lx1cd⟩ := lts2 x1c.lt
 have hownd := World.ownsRow_lit (e := 82) (size := 1) w5 #[] 0 (Nat.le_refl _) (by simp [maxLen]) rfl
 have hnewsd := ((h.2.2.1).keep ((Kp.refl w5).alloc (.cells #[] 82))).news (by omega) (Nat.le_refl _)
 have hnld : (words (a.den.take m)).length = m * 1 := by rw [words_len, List.length_take]; have := (h.2.2.1).2.1; omega
 have HOd := Lib.hid hownd
 have HNd := Lib.hid hnewsd
 have HNLd := Lib.hid hnld
 clear hownd hnewsd hnld
 have nf0 : ¬ w.heap.size = w.heap.size + 1 := by omega
 have nf1 : ¬ w.heap.size = w.heap.size + 2 := by omega
 have nf2 : ¬ w.heap.size + 1 = w.heap.size + 1 + 1 := by omega
 have nf3 : ¬ w.heap.size = w.heap.size + 1 := by omega
 clear nf3
 go_region_held3 (fun w' => SeesY w5.heap.size (w.heap.size + 1) (w.heap.size + 1 + 1) (.bool b) (.slice (some ⟨ga, 0, none⟩) n capa) w5 w') (first | with_reducible exact SeesY.of (Nat.le_refl _) ((brefl _).drew) y1.lt cy1_0 cy1_1 | with_reducible exact SeesY.of (Nat.le_refl _) (((brefl _).alloc (Nat.le_refl _) _).drew) y1.lt cy1_0 cy1_1 | with_reducible exact SeesY.of (Nat.le_refl _) (by assumption) y1.lt cy1_0 cy1_1 | with_reducible exact (SeesY.set2 (SeesY.of (Nat.le_refl _) (by assumption) y1.lt cy1_0 cy1_1) (.inl ⟨rfl, rfl⟩)) | with_reducible exact (SeesY.set2 (SeesY.set2 (SeesY.of (Nat.le_refl _) (by assumption) y1.lt cy1_0 cy1_1) (.inl ⟨rfl, rfl⟩)) (.inr ⟨rfl, rfl⟩)) | with_reducible exact (SeesY.set3 (SeesY.set2 (SeesY.set2 (SeesY.of (Nat.le_refl _) (by assumption) y1.lt cy1_0 cy1_1) (.inl ⟨rfl, rfl⟩)) (.inr ⟨rfl, rfl⟩)) (by omega)) | with_reducible exact (SeesY.set3 (SeesY.set3 (SeesY.set2 (SeesY.set2 (SeesY.of (Nat.le_refl _) (by assumption) y1.lt cy1_0 cy1_1) (.inl ⟨rfl, rfl⟩)) (.inr ⟨rfl, rfl⟩)) (by omega)) (by omega))) ((refine step_append_lies _ rfl _ _ _ rfl w5.heap.size 82 i0 (.int .u32 0) 1 4 Tryz.underlying70 hi0 hz0 hz1 hz2 rfl (by omega) _ 0 [] rfl (by first | exact HOd.out | exact HOd.out.drew) ⟨gD, oD, none⟩ m e (words (a.den.take m)) rfl HNLd.out HNd.out (words_one _) (by omega) (by unfold maxLen; omega) (by omega) (by simp) (w5.heap.size + 1) (by simp) ?_; intro gd capd vd hownd hgrowd hatd hltd; have qd : Below w5.heap.size w5 vd := (((Below.refl _ _).alloc (Nat.le_refl _) _).drew).grown hgrowd (by simp) (fun b hb => Nat.le_of_eq (Option.some.inj hb)); have z1 : Blk vd (w.heap.size + 1) 123 #[.bool b, .slice (some ⟨ga, 0, none⟩) n capa] := y1.below qd y1.lt; obtain ⟨cz10, cz11⟩ := z1.c2; obtain ⟨fz10, fz11⟩ := z1.f2; have z2 : Blk vd (w.heap.size + 1 + 1) 123 #[.bool false, .slice none 0 0] := x1c.below qd x1c.lt; obtain ⟨cz20, cz21⟩ := z2.c2; obtain ⟨fz20, fz21⟩ := z2.f2))
 simp only [Nat.zero_add, List.nil_append] at hownd
 have hwd : Wd vd (some ⟨gd, 0, none⟩) m capd a.den := by
  have x := Wd.of_own hownd (Wds.take (h.2.2.1).1 m)
  rwa [List.take_of_length_le (Nat.le_of_eq (h.2.2.1).2.1.symm)] at x
 clear hownd hgrowd hatd HOd HNd HNLd
 clear cx1aa cx1ab cx1ac lx1aa lx1ab lx1ac lx1ad cy1_0 fy1 cy1_1 ly1 cx1ca fx1ca cx1cb fx1cb lx1ca lx1cb lx1cc lx1cd
 replace x1a := x1a.b qd
 replace hwa := hwa.belw qd
 have bwd : Below w.heap.size w vd := bw5.trans (qd.mono bw5.size)
 have lwd : w5.heap.size ≤ vd.heap.size := qd.size
 go_wp2_with fail
 refine bodyPost_ret (v := .tuple #[.agg #[.bool b, .slice (some ⟨ga, 0, none⟩) n capa], .agg #[.bool false, .slice (some ⟨gd, 0, none⟩) m capd]]) (by simp [results, Tryz.results136, go_sem, *] <;> trivial) rfl ?_
 have kp := (((((Kp.refl vd).sb (w.heap.size + 1) 0 z1.box (by decide) (.bool b)).sb (w.heap.size + 1) 1 (z1.box.set ⟨w.heap.size + 1, 0, none⟩ (.bool b)) (by decide) (.slice (some ⟨ga, 0, none⟩) n capa)).sb (w.heap.size + 1 + 1) 0 ((z2.box.set ⟨w.heap.size + 1, 0, none⟩ (.bool b)).set ⟨w.heap.size + 1, 1, none⟩ (.slice (some ⟨ga, 0, none⟩) n capa)) (by decide) (.bool false)).sb (w.heap.size + 1 + 1) 1 (((z2.box.set ⟨w.heap.size + 1, 0, none⟩ (.bool b)).set ⟨w.heap.size + 1, 1, none⟩ (.slice (some ⟨ga, 0, none⟩) n capa)).set ⟨w.heap.size + 1 + 1, 0, none⟩ (.bool false)) (by decide) (.slice (some ⟨gd, 0, none⟩) m capd))
 exact ⟨b, some ⟨ga, 0, none⟩, n, capa, false, some ⟨gd, 0, none⟩, m, capd, rfl, ⟨h.1.symm.trans HE.out.2.1, HE.out.1 ▸ hwa.keep kp, h.2.2.2.1⟩, ⟨by simp [wh], HE.out.2.2 ▸ hwd.keep kp, h.2.2.2.2⟩, ((((bwd.sc (w.heap.size + 1) 0 (by omega) (.bool b)).sc (w.heap.size + 1) 1 (by omega) (.slice (some ⟨ga, 0, none⟩) n capa)).sc (w.heap.size + 1 + 1) 0 (by omega) (.bool false)).sc (w.heap.size + 1 + 1) 1 (by omega) (.slice (some ⟨gd, 0, none⟩) m capd))⟩
theorem f_parts (w : World) (b A n c D m e q k) (h : QZ w b A n c D m e q k) (h0 : 0 < k) (hk : k ≤ 300000000) :
    Calls Tryz.prog 136 #[.agg #[.bool b, .slice A n c, .slice D m e]] w (RetII w q.num q.den k) := by
  obtain ⟨a, h, rfl⟩ := h
  cases ho : a.ok
  · exact f_parts_1 w b A n c D m e a k h h0 hk ho
  · by_cases hn : n = 0
    · exact f_parts_2 w b A n c D m e a k h h0 hk ho hn
    · exact f_parts_3 w b A n c D m e a k h h0 hk ho (h.num_ne (by omega))
end Go.Proofs.YtoiijifnfdgfpaaGreatDoor

/- Walks: fractions, sums and products. -/
namespace Go.Proofs.YtoiijifnfdgfpaaGreatDoor
open Go Go.RowKit Bn
attribute [local go_sem ↓] Go.wp_at_zero Go.wp_at_succ
theorem f_cmp (w : World) (b A n c D m e q k) (h : QZ w b A n c D m e q k) (b' A' n' c' D' m' e' q' k') (h' : QZ w b' A' n' c' D' m' e' q' k') (h0 : 0 < k) (hk : k ≤ 40000000) (h0' : 0 < k') (hk' : k' ≤ 40000000) :
    Calls Tryz.prog 149 #[.agg #[.bool b, .slice A n c, .slice D m e], .agg #[.bool b', .slice A' n' c', .slice D' m' e']] w (RetV w (.int .i64 (cmpI (q.num * q'.den) (q'.num * q.den)))) := by
  go_enter Tryz.func149, Tryz.ntmps149
  go_wp2_with fail
  (with_reducible refine (f_parts _ b A n c D m e (q) (k) ?_ ?_ ?_).mono ?_); (exact (h.belw (((Below.refl _ _).alloc (Nat.le_refl _) _).alloc (by simp) _))); (omega); (omega); rintro e w1 ⟨b1, A1, n1, c1, b'1, A'1, n'1, c'1, rfl, h1, h'1, hb1⟩
  have q1 := hb1.q2
  replace h := h.belw q1
  replace h' := h'.belw q1
  have x1a : Blk w1 w.heap.size 72 #[.bool b, .slice A n c, .slice D m e] := ((blkAt _ _ _ (by simp)).alloc _).below hb1 (by simp <;> omega)
  have x1b := (blkAt _ _ _ (g := w.heap.size + 1) (by simp)).below hb1 (by simp)
  have bw1 := (brefl w).trans (q1.mono (brefl w).size)
  have lw1 := hb1.l2
  clear q1
  have cx1b := x1b.c3
  obtain ⟨lx1ba, lx1bb, lx1bc, lx1bd⟩ := lts1 x1b.lt
  go_wp2_with fail
  (with_reducible refine (f_parts _ b' A' n' c' D' m' e' (q') (k') ?_ ?_ ?_).mono ?_); (exact (h'.belw (((Below.refl _ _).alloc (Nat.le_refl _) _).alloc (by simp) _))); (omega); (omega); rintro e w2 ⟨b2, A2, n2, c2, b'2, A'2, n'2, c'2, rfl, h2, h'2, hb2⟩
  clear cx1b lx1ba lx1bb lx1bc lx1bd
  have q2 := hb2.q2
  replace h := h.belw q2
  replace h' := h'.belw q2
  replace h1 := h1.belw q2
  replace h'1 := h'1.belw q2
  replace x1a := x1a.b q2
  replace x1b := x1b.b q2
  have x2a : Blk w2 w1.heap.size 123 #[.bool b1, .slice A1 n1 c1] := ((blkAt _ _ _ (by simp)).alloc _).below hb2 (by simp <;> omega)
  have x2b := (blkAt _ _ _ (g := w1.heap.size + 1) (by simp)).below hb2 (by simp)
  have bw2 := bw1.trans (q2.mono bw1.size)
  have lw2 := hb2.l2
  clear q2 bw1
  go_wp2_with fail
  have p3 := (((Kp.refl w2).alloc (.cells #[.bool b2, .slice A2 n2 c2] 123)).alloc (.cells #[.bool b'2, .slice A'2 n'2 c'2] 123))
  have bw3 := ((bw2.alloc (by first | omega | (simp <;> omega)) (.cells #[.bool b2, .slice A2 n2 c2] 123)).alloc (by first | omega | (simp <;> omega)) (.cells #[.bool b'2, .slice A'2 n'2 c'2] 123))
  have x3a : Blk ((w2.alloc (.cells #[.bool b2, .slice A2 n2 c2] 123)).alloc (.cells #[.bool b'2, .slice A'2 n'2 c'2] 123)) w2.heap.size 123 #[.bool b2, .slice A2 n2 c2] := ((blkAt _ _ _ (by simp)).alloc (.cells #[.bool b'2, .slice A'2 n'2 c'2] 123))
  have x3b : Blk ((w2.alloc (.cells #[.bool b2, .slice A2 n2 c2] 123)).alloc (.cells #[.bool b'2, .slice A'2 n'2 c'2] 123)) (w2.heap.size + 1) 123 #[.bool b'2, .slice A'2 n'2 c'2] := (blkAt _ _ _ (by simp))
  replace x1a := ((x1a.alloc (.cells #[.bool b2, .slice A2 n2 c2] 123)).alloc (.cells #[.bool b'2, .slice A'2 n'2 c'2] 123))
  replace x1b := ((x1b.alloc (.cells #[.bool b2, .slice A2 n2 c2] 123)).alloc (.cells #[.bool b'2, .slice A'2 n'2 c'2] 123))
  replace x2a := ((x2a.alloc (.cells #[.bool b2, .slice A2 n2 c2] 123)).alloc (.cells #[.bool b'2, .slice A'2 n'2 c'2] 123))
  replace x2b := ((x2b.alloc (.cells #[.bool b2, .slice A2 n2 c2] 123)).alloc (.cells #[.bool b'2, .slice A'2 n'2 c'2] 123))
  have lw3 : w2.heap.size + 2 ≤ ((w2.alloc (.cells #[.bool b2, .slice A2 n2 c2] 123)).alloc (.cells #[.bool b'2, .slice A'2 n'2 c'2] 123)).heap.size := by simp
  generalize hE3 : ((w2.alloc (.cells #[.bool b2, .slice A2 n2 c2] 123)).alloc (.cells #[.bool b'2, .slice A'2 n'2 c'2] 123)) = w3 at p3 bw3 lw3 x3a x3b x1a x1b x2a x2b ⊢
  clear hE3
  replace h := h.keep p3
  replace h' := h'.keep p3
  replace h1 := h1.keep p3
  replace h'1 := h'1.keep p3
  replace h2 := h2.keep p3
  replace h'2 := h'2.keep p3
  clear bw2
  have lx1a := lts0 x1a.lt
  obtain ⟨lx1ba, lx1bb, lx1bc, lx1bd⟩ := lts1 x1b.lt
  have cx2a := x2a.c2
  have lx2a := lts0 x2a.lt
  have cx2b := x2b.c2
  have lx2b := lts1 x2b.lt
  have cx3a := x3a.c2
  have lx3a := lts0 x3a.lt
  have cx3b := x3b.c2
  have lx3b := lts1 x3b.lt
  go_region_held3 (fun w' => Sees w3.heap.size w3 w') (first | with_reducible exact Sees.of (Nat.le_refl _) (by assumption) | with_reducible exact Sees.of (Nat.le_refl _) (brefl _).drew | exact Sees.of (Nat.le_refl _) (below_drewN (brefl _) 1) | exact Sees.of (Nat.le_refl _) (below_drewN (by assumption) _))
    (first
      | (go_at_call 129; (with_reducible refine (i_mul _ b1 A1 n1 c1 ((q).num) ((k)) ?_ b'2 A'2 n'2 c'2 (((q').den : Int)) ((k')) ?_ ?_).mono ?_); (exact h1.iz); (exact h'2.iz); (omega); rintro e w4 ⟨b4, A4, n4, c4, rfl, h4, hb4⟩; replace hb4 := bnext (below_drewN (brefl _) 1) hb4; have q4 : Below w3.heap.size w3 w4 := bnext (brefl w3) hb4; replace h := h.belw hb4; replace h' := h'.belw hb4; replace h1 := h1.belw hb4; replace h'1 := h'1.belw hb4; replace h2 := h2.belw hb4; replace h'2 := h'2.belw hb4)
      | (go_at_call 129; (with_reducible refine (i_mul _ b2 A2 n2 c2 ((q').num) ((k')) ?_ b'1 A'1 n'1 c'1 (((q).den : Int)) ((k)) ?_ ?_).mono ?_); (exact h2.iz); (exact h'1.iz); (omega); rintro e w5 ⟨b5, A5, n5, c5, rfl, h5, hb5⟩; have q5 : Below w3.heap.size w3 w5 := bnext q4 hb5; replace h := h.belw hb5; replace h' := h'.belw hb5; replace h1 := h1.belw hb5; replace h'1 := h'1.belw hb5; replace h2 := h2.belw hb5; replace h'2 := h'2.belw hb5; replace h4 := h4.belw hb5)
      | (go_at_call 71; (with_reducible refine (i_cmp _ b4 A4 n4 c4 (((q).num) * (((q').den : Int))) (((k)) + ((k'))) ?_ b5 A5 n5 c5 (((q').num) * (((q).den : Int))) (((k')) + ((k))) ?_ ?_).mono ?_); (exact h4.iz); (exact h5.iz); (omega); rintro e w6 ⟨rfl, hb6⟩; have q6 : Below w3.heap.size w3 w6 := bnext q5 hb6; replace h := h.belw hb6; replace h' := h'.belw hb6; replace h1 := h1.belw hb6; replace h'1 := h'1.belw hb6; replace h2 := h2.belw hb6; replace h'2 := h'2.belw hb6; replace h4 := h4.belw hb6; replace h5 := h5.belw hb6))
  have bw6 := bw3.trans (q6.mono bw3.size)
  clear lx1a lx1ba lx1bb lx1bc lx1bd cx2a lx2a cx2b lx2b cx3a lx3a cx3b lx3b
  replace x1a := x1a.b q6
  replace x1b := x1b.b q6
  replace x2a := x2a.b q6
  replace x2b := x2b.b q6
  replace x3a := x3a.b q6
  replace x3b := x3b.b q6
  have lw6 := q6.size
  go_wp2_with fail
  go_ret
  exact retI rfl bw6
theorem f_from (w : World) (b A n c z k) (h : IZ w b A n c z k) (b' A' n' c' z' k') (h' : IZ w b' A' n' c' z' k') (q : Rat) (K : Nat) (hd : z' ≠ 0) (hq : Rat.divInt z z' = q) (hs : Sz q K) (hk : k + k' ≤ 300000000) :
  Calls Tryz.prog 194 #[.agg #[.bool b, .slice A n c], .agg #[.bool b', .slice A' n' c']] w (RetFe w .nilIface q K) := by
 obtain ⟨s, hs1⟩ : ∃ s, z'.sign = s := ⟨_, rfl⟩
 have e0 : ((s : Int) == 0) = false := by simp; rintro rfl; exact hd (Int.sign_eq_zero_iff_zero.1 hs1)
 have HS1 := Lib.hid hs1
 have HD := Lib.hid hd
 have HQ := Lib.hid hq
 have HS := Lib.hid hs
 clear hs1 hd hq hs
 go_enter Tryz.func194, Tryz.ntmps194
 go_wp2_with fail
 (with_reducible refine (i_sign_e _ b' A' n' c' (z') (k') ?_ s ?_ ?_).mono ?_); (exact (h'.belw ((((Below.refl _ _).alloc (Nat.le_refl _) _).alloc (by simp) _).alloc (by simp <;> omega) _))); (exact HS1.out); (omega); rintro e w1 ⟨rfl, hb1⟩
 have q1 := hb1.q3
 replace h := h.belw q1
 replace h' := h'.belw q1
 have x1a : Blk w1 w.heap.size 123 #[.bool b, .slice A n c] := (((blkAt _ _ _ (by simp)).alloc _).alloc _).below hb1 (by simp <;> omega)
 have x1b := ((blkAt _ _ _ (g := w.heap.size + 1) (by simp)).alloc _).below hb1 (by simp <;> omega)
 have x1c := (blkAt _ _ _ (g := w.heap.size + 1 + 1) (by simp)).below hb1 (by simp)
 have bw1 := (brefl w).trans (q1.mono (brefl w).size)
 have lw1 := hb1.l3
 clear q1
 have cx1a := x1a.c2
 have lx1a := lts0 x1a.lt
 have cx1b := x1b.c2
 have lx1b := lts1 x1b.lt
 go_wp2_with fail
 (with_reducible refine (f_form _ b A n c (z) (k) ?_ b' A' n' c' (z') (k') ?_ q K ?_ ?_ ?_ ?_).mono ?_); (exact h); (exact h'); (exact HD.out); (exact HQ.out); (exact HS.out); (omega); rintro e w2 ⟨b2, A2, n2, c2, A'2, n'2, c'2, rfl, h2, q2⟩
 clear cx1a lx1a cx1b lx1b
 replace h := h.belw q2
 replace h' := h'.belw q2
 replace x1a := x1a.b q2
 replace x1b := x1b.b q2
 replace x1c := x1c.b q2
 have bw2 := bw1.trans (q2.mono bw1.size)
 have lw2 := q2.size
 clear q2 bw1
 have cx1c := x1c.c3
 have fx1c := x1c.f3
 have lx1c := lts2 x1c.lt
 go_wp2_with fail
 refine bodyPost_ret (v := .tuple #[.agg #[.bool b2, .slice A2 n2 c2, .slice A'2 n'2 c'2], .nilIface]) (by simp [results, Tryz.results194, go_sem, *] <;> trivial) rfl ?_
 exact ⟨b2, A2, n2, c2, A'2, n'2, c'2, rfl, h2.keep ((((Kp.refl w2).sb (w.heap.size + 1 + 1) 0 x1c.box (by decide) (.bool b2)).sb (w.heap.size + 1 + 1) 1 (x1c.box.set ⟨w.heap.size + 1 + 1, 0, none⟩ (.bool b2)) (by decide) (.slice A2 n2 c2)).sb (w.heap.size + 1 + 1) 2 ((x1c.box.set ⟨w.heap.size + 1 + 1, 0, none⟩ (.bool b2)).set ⟨w.heap.size + 1 + 1, 1, none⟩ (.slice A2 n2 c2)) (by decide) (.slice A'2 n'2 c'2)), (((bw2.sc (w.heap.size + 1 + 1) 0 (by omega) (.bool b2)).sc (w.heap.size + 1 + 1) 1 (by omega) (.slice A2 n2 c2)).sc (w.heap.size + 1 + 1) 2 (by omega) (.slice A'2 n'2 c'2))⟩
end Go.Proofs.YtoiijifnfdgfpaaGreatDoor

/- Rotations with rational half-angle tangents, in plain fractions. -/
namespace Bn
structure TN where
  t : Rat
  h : Bool
deriving DecidableEq
def TN.ok (a : TN) : Prop := a.h = true → a.t = 0
/-! ### order -/
def rcmp (a b : Rat) : Int := if a < b then -1 else if a = b then 0 else 1
theorem rcmp_zero {a b : Rat} : rcmp a b = 0 ↔ a = b := by
  unfold rcmp
  split
  · grind
  · split
    · simpa
    · simpa
end Bn

/- Cells that are only read; turns as values. -/
namespace Go.Proofs.YtoiijifnfdgfpaaGreatDoor
open Go Go.RowKit Bn
attribute [local go_sem ↓] Go.wp_at_zero Go.wp_at_succ
def Rd (w : World) (g : Nat) (cs : Array Value) : Prop := g < w.heap.size ∧ ∀ i, i < cs.size → w.cell? ⟨g, i, none⟩ = cs[i]?
section
variable {w w' : World} {g : Nat} {cs : Array Value}
theorem Rd.lt (h : Rd w g cs) : g < w.heap.size := h.1
theorem Rd.cell (h : Rd w g cs) (i : Nat) (hi : i < cs.size) : w.cell? ⟨g, i, none⟩ = cs[i]? := h.2 i hi
theorem Rd.below {B : Nat} (h : Rd w g cs) (hb : Below B w w') (hg : g < B) : Rd w' g cs := by
  refine ⟨?_, fun i hi => ?_⟩
  · have := hb.block g hg
    rcases Nat.lt_or_ge g w'.heap.size with h1 | h1
    · exact h1
    · rw [Array.getElem?_eq_none h1, Array.getElem?_eq_getElem h.1] at this; cases this
  · rw [← h.2 i hi]; unfold World.cell?; rw [hb.block g hg]
theorem Rd.alloc (h : Rd w g cs) (o : Obj) : Rd (w.alloc o) g cs := by
  refine ⟨by have := h.1; simp; omega, fun i hi => ?_⟩
  rw [← h.2 i hi]; unfold World.cell?; rw [Below.heap_alloc w o g h.1]
theorem Rd.far (h : Rd w g cs) {p : Addr} (hp : g ≠ p.block) (u : Value) : Rd (w.setCell p u) g cs := by
  refine ⟨by have := h.1; simp [World.setCell]; exact this, fun i hi => ?_⟩
  rw [← h.2 i hi]; unfold World.cell?; rw [Below.heap_setCell w p u g hp]
end
abbrev SeesB (G : Nat) (W0 W : World) : Prop := ((∀ b o, b < G → W.cell? ⟨b, o, none⟩ = W0.cell? ⟨b, o, none⟩) ∧ (∀ b o, b < G → W.frozen? ⟨b, o, none⟩ = W0.frozen? ⟨b, o, none⟩)) ∧ G ≤ W.heap.size
theorem SeesB.of {W0 W : World} (hb : Below W0.heap.size W0 W) : SeesB W0.heap.size W0 W := Sees.of (Nat.le_refl _) hb

abbrev SeesZ (G g g' : Nat) (W0 W : World) : Prop := ((∀ b o, b < G → b ≠ g → b ≠ g' → W.cell? ⟨b, o, none⟩ = W0.cell? ⟨b, o, none⟩) ∧ (∀ b o, b < G → W.frozen? ⟨b, o, none⟩ = W0.frozen? ⟨b, o, none⟩)) ∧ G ≤ W.heap.size
theorem SeesZ.of {G g g' : Nat} {W0 W : World} (h : G ≤ W0.heap.size) (hb : Below W0.heap.size W0 W) : SeesZ G g g' W0 W :=
  ⟨⟨fun b o hlt _ _ => (bcell hb).1 b o (Nat.lt_of_lt_of_le hlt h), fun b o hlt => (bcell hb).2 b o (Nat.lt_of_lt_of_le hlt h)⟩, Nat.le_trans h hb.size⟩
theorem SeesZ.set2 {G g g' : Nat} {W0 W : World} (h : SeesZ G g g' W0 W) {i : Nat} {u : Value} : SeesZ G g g' W0 (W.setCell ⟨g', i, none⟩ u) := by
  refine ⟨⟨fun b o hlt hne hne' => ?_, fun b o hlt => ?_⟩, ?_⟩
  · rw [← h.1.1 b o hlt hne hne']; unfold World.cell?; rw [Below.heap_setCell _ _ _ b hne']
  · rw [← h.1.2 b o hlt]; exact World.frozen?_setCell ..
  · have := h.2; simp [World.setCell]; exact this
def QK (w : World) (b : Bool) (A : Option Addr) (n c : Nat) (D : Option Addr) (m e : Nat) (q : Rat) (k : Nat) : Prop := ∃ a, QD w b A n c D m e a k ∧ a.q = q ∧ a.ok = true
section
variable {w w' : World} {b x : Bool} {A D : Option Addr} {n c m e k j : Nat} {q : Rat} {t : TN}
theorem QK.qz (h : QK w b A n c D m e q k) : QZ w b A n c D m e q k := by obtain ⟨a, h1, h2, _⟩ := h; exact ⟨a, h1, h2⟩
theorem QV.qk (h : QV w b A n c D m e q k) : QK w b A n c D m e q k := ⟨_, h, rd_q q, rd_ok q⟩
theorem QK.belw (h : QK w b A n c D m e q k) (hb : Below w.heap.size w w') : QK w' b A n c D m e q k := by obtain ⟨a, h1, h2⟩ := h; exact ⟨a, h1.belw hb, h2⟩
theorem QK.keep (h : QK w b A n c D m e q k) (hb : Kp w w') : QK w' b A n c D m e q k := by obtain ⟨a, h1, h2⟩ := h; exact ⟨a, h1.keep hb, h2⟩
theorem QK.mono (h : QK w b A n c D m e q k) (hk : k ≤ j) : QK w b A n c D m e q j := by obtain ⟨a, h1, h2⟩ := h; exact ⟨a, h1.mono hk, h2⟩
def TK (w : World) (b : Bool) (A : Option Addr) (n c : Nat) (D : Option Addr) (m e : Nat) (x : Bool) (t : TN) (k : Nat) : Prop := QK w b A n c D m e t.t k ∧ x = t.h ∧ t.ok
def TV (w : World) (b : Bool) (A : Option Addr) (n c : Nat) (D : Option Addr) (m e : Nat) (x : Bool) (t : TN) (k : Nat) : Prop := QV w b A n c D m e t.t k ∧ x = t.h ∧ t.ok
theorem TV.tk (h : TV w b A n c D m e x t k) : TK w b A n c D m e x t k := ⟨h.1.qk, h.2⟩
theorem TK.belw (h : TK w b A n c D m e x t k) (hb : Below w.heap.size w w') : TK w' b A n c D m e x t k := ⟨h.1.belw hb, h.2⟩
theorem TK.keep (h : TK w b A n c D m e x t k) (hb : Kp w w') : TK w' b A n c D m e x t k := ⟨h.1.keep hb, h.2⟩
theorem TV.belw (h : TV w b A n c D m e x t k) (hb : Below w.heap.size w w') : TV w' b A n c D m e x t k := ⟨h.1.belw hb, h.2⟩
theorem TV.keep (h : TV w b A n c D m e x t k) (hb : Kp w w') : TV w' b A n c D m e x t k := ⟨h.1.keep hb, h.2⟩
theorem TK.mono (h : TK w b A n c D m e x t k) (hk : k ≤ j) : TK w b A n c D m e x t j := ⟨h.1.mono hk, h.2⟩
theorem TK.qk (h : TK w b A n c D m e x t k) : QK w b A n c D m e t.t k := h.1
theorem TK.qz (h : TK w b A n c D m e x t k) : QZ w b A n c D m e t.t k := h.1.qz
theorem TV.qk (h : TV w b A n c D m e x t k) : QK w b A n c D m e t.t k := h.1.qk
theorem TV.qz (h : TV w b A n c D m e x t k) : QZ w b A n c D m e t.t k := h.1.qz
theorem TV.mono (h : TV w b A n c D m e x t k) (hk : k ≤ j) : TV w b A n c D m e x t j := ⟨h.1.mono hk, h.2⟩
end
end Go.Proofs.YtoiijifnfdgfpaaGreatDoor

/- A region that draws its order, walked operation by operation: what each one leaves stays true. -/
namespace Go.Proofs.YtoiijifnfdgfpaaGreatDoor
open Go Go.RowKit Bn
attribute [local go_sem ↓] Go.wp_at_zero Go.wp_at_succ

theorem count_set_lt {l : List Bool} {i : Nat} (h : l[i]? = some false) : (l.set i true).count false + 1 = l.count false := by
  induction l generalizing i with
  | nil => simp at h
  | cons b l ih =>
    cases i with
    | zero => simp at h; subst h; simp
    | succ i =>
      simp only [List.getElem?_cons_succ] at h
      have := ih h
      simp only [List.set_cons_succ, List.count_cons]
      omega
section
variable {P : Program} {ops : Array Oper} {Q : Exit → Act → World → Prop} {md : Region.Mode}
theorem ready_get {L : Array Bool} {i : Nat} (h : i ∈ Region.ready md ops L) : L.toList[i]? = some false := by
  have h1 := (mem_ready.1 h).1
  rcases Nat.lt_or_ge i L.size with h2 | h2
  · rw [Array.getD_eq_getD_getElem?, Array.getElem?_eq_getElem h2] at h1
    simp only [Option.getD_some] at h1
    rw [Array.getElem?_toList, Array.getElem?_eq_getElem h2, h1]
  · rw [Array.getD_eq_getD_getElem?, Array.getElem?_eq_none h2] at h1; cases h1
theorem wpAny_inv (A : Array Bool → Act → World → Prop)
    (hstep : ∀ L a w i, L.size = ops.size → i ∈ Region.ready md ops L → A L a w → wpOp P ops Q i (A (L.setIfInBounds i true)) a w)
    (hend : ∀ L a w, L.size = ops.size → Region.ready md ops L = [] → A L a w → Q .normal a w) :
    ∀ (fuel : Nat) (L : Array Bool) (a : Act) (w : World), L.size = ops.size → L.toList.count false ≤ fuel → A L a w → wpAny P md ops Q fuel L a w := by
  intro fuel
  induction fuel with
  | zero =>
    intro L a w hs hc hA
    have hr : Region.ready md ops L = [] := by
      cases hr : Region.ready md ops L with
      | nil => rfl
      | cons i r =>
        have h1 := ready_get (md := md) (ops := ops) (L := L) (i := i) (by rw [hr]; simp)
        have h2 := count_set_lt h1
        omega
    exact ⟨hr, hend L a w hs hr hA⟩
  | succ fuel ih =>
    intro L a w hs hc hA
    refine ⟨fun hr => hend L a w hs hr hA, fun i hi => wpOp_mono (fun a' w' h' => ih _ _ _ (by simpa using hs) ?_ h') (hstep L a w i hs hi hA)⟩
    have h2 := count_set_lt (ready_get hi)
    rw [Array.toList_setIfInBounds]
    omega
end
def setFrom (w : World) (g : Nat) : Nat → List Value → World
  | _, [] => w
  | i, u :: us => setFrom (w.setCell ⟨g, i, none⟩ u) g (i + 1) us
def setL (c : Array Value) : Nat → List Value → Array Value
  | _, [] => c
  | i, u :: us => setL (c.setIfInBounds i u) (i + 1) us
section
variable {g : Nat} {t : TypeId}
theorem setFrom_heap {g' : Nat} (hg : g' ≠ g) : ∀ (us : List Value) (i : Nat) (w : World), (setFrom w g i us).heap[g']? = w.heap[g']? := by
  intro us
  induction us with
  | nil => intro i w; rfl
  | cons u us ih => intro i w; exact (ih (i + 1) _).trans (Below.heap_setCell w ⟨g, i, none⟩ u g' hg)
theorem setFrom_kp (ht : KT t = false) (us : List Value) (i : Nat) (w : World) (c : Array Value) (hc : noU c = true) (h : Blk w g t c) : Kp w (setFrom w g i us) :=
  fun _ _ _ x => x.same (setFrom_heap (x.ne h ht hc) us i w)
theorem setFrom_blk : ∀ (us : List Value) (i : Nat) (w : World) (c : Array Value), Blk w g t c → Blk (setFrom w g i us) g t (setL c i us) := by
  intro us
  induction us with
  | nil => intro i w c h; exact h
  | cons u us ih => intro i w c h; exact ih (i + 1) _ _ (h.set_ i u)
theorem setFrom_far {g' : Nat} {t' : TypeId} {c' : Array Value} (hg : g' ≠ g) : ∀ (us : List Value) (i : Nat) (w : World), Blk w g' t' c' → Blk (setFrom w g i us) g' t' c' := by
  intro us
  induction us with
  | nil => intro i w h; exact h
  | cons u us ih => intro i w h; exact ih (i + 1) _ (h.far hg u)
theorem setFrom_below {B : Nat} {a : World} (hg : B ≤ g) : ∀ (us : List Value) (i : Nat) (w : World), Below B a w → Below B a (setFrom w g i us) := by
  intro us
  induction us with
  | nil => intro i w h; exact h
  | cons u us ih => intro i w h; exact ih (i + 1) _ (h.setCell (p := ⟨g, i, none⟩) hg u)
end
theorem setFrom_size {g : Nat} : ∀ (us : List Value) (i : Nat) (w : World), (setFrom w g i us).heap.size = w.heap.size := by
  intro us
  induction us with
  | nil => intro i w; rfl
  | cons u us ih => intro i w; rw [setFrom, ih]; simp [World.setCell]
structure Flt where
  a : Nat
  s : Nat
  T : TypeId
  Z : Array Value
  PS : Array Value → World → Prop
  [hZ : NoU Z]
structure Own where
  g : Nat
  s : Nat
  o : Nat
  T : TypeId
  Z : Array Value
  PS : Array Value → World → Prop
  [hZ : NoU Z]
def upd (x : Nat → Value) (i : Nat) (v : Value) : Nat → Value := fun j => if j = i then v else x j
theorem upd_same (x : Nat → Value) (i : Nat) (v : Value) : upd x i v i = v := by simp [upd]
theorem upd_ne (x : Nat → Value) {i j : Nat} (v : Value) (h : j ≠ i) : upd x i v j = x j := by simp [upd, h]

def LinA (ops : Array Oper) (fr : (Nat → Value) → Act) (R : Nat → Value → World → Prop) (es : List Flt) (ow : List Own) (B : Nat) (W : World) (L : Array Bool) (a : Act) (w : World) : Prop :=
  ∃ x, a = fr x ∧ (Kp W w ∧ Below B W w) ∧ (∀ i, L.getD i false = true → R i (x i) w) ∧
  (∀ i o, ops[i]? = some o → L.getD i false = true → ∀ e ∈ o.after, Region.binds .any e = true → L.getD e.on false = true) ∧
  (∀ f ∈ es, L.getD f.a false = true → ∃ g c, x f.a = .pointer (some ⟨g, 0, none⟩) ∧ W.heap.size ≤ g ∧ Blk w g f.T c ∧ (L.getD f.s false = false → c = f.Z) ∧ (L.getD f.s false = true → f.PS c w)) ∧
  (∀ f ∈ es, ∀ f' ∈ es, f.a ≠ f'.a → L.getD f.a false = true → L.getD f'.a false = true → x f.a ≠ x f'.a) ∧
  (∀ f ∈ ow, ∃ c, Blk w f.g f.T c ∧ (L.getD f.s false = false → c = f.Z) ∧ (L.getD f.s false = true → f.PS c w))

section
variable (P : Program) (ops : Array Oper) (Q : Exit → Act → World → Prop) (fr : (Nat → Value) → Act) (R : Nat → Value → World → Prop) (es : List Flt) (ow : List Own) (B : Nat) (W : World)
def ValStep (i : Nat) (o : Oper) : Prop := (∀ f ∈ es, i ≠ f.a ∧ i ≠ f.s) ∧ (∀ f ∈ ow, i ≠ f.s) ∧
  ∀ x w, Kp W w → (∀ f ∈ ow, (∀ o', ops[f.s]? = some o' → ∃ e ∈ o'.after, Region.binds .any e = true ∧ e.on = i) → Blk w f.g f.T f.Z) → (∀ e ∈ o.after, Region.binds .any e = true → R e.on (x e.on) w) → ∀ K' : Act → World → Prop, Shut (∀ v w', R i v w' → Below w.heap.size w w' → K' ((fr x).put o.dst v) w') →
    if Region.wanted o (yielded ops (fr x).tmps) = true then Oper.wp P o (fr x) w K' Q else K' ((fr x).put o.dst undef) w
def AllocStep (i : Nat) (o : Oper) : Prop := ∃ f ∈ es, i = f.a ∧ (∀ f' ∈ es, i ≠ f'.s) ∧ (∀ f' ∈ ow, i ≠ f'.s) ∧ (∀ f' ∈ es, f'.a = i → f' = f) ∧ (∀ v w, R i v w) ∧
  ∀ x w, ∀ K' : Act → World → Prop, Shut (K' ((fr x).put o.dst (.pointer (some ⟨w.heap.size, 0, none⟩))) (w.alloc (.cells f.Z f.T))) →
    if Region.wanted o (yielded ops (fr x).tmps) = true then Oper.wp P o (fr x) w K' Q else K' ((fr x).put o.dst undef) w
def StoreStep (i : Nat) (o : Oper) : Prop := ∃ f ∈ es, i = f.s ∧ (∀ f' ∈ es, i ≠ f'.a) ∧ (∀ f' ∈ ow, i ≠ f'.s) ∧ (∀ f' ∈ es, f'.s = i → f' = f) ∧ (∀ f' ∈ es, f'.a = f.a → f' = f) ∧ KT f.T = false ∧ (∀ v w, R i v w) ∧ (∃ e ∈ o.after, Region.binds .any e = true ∧ e.on = f.a) ∧
  ∀ x w g, x f.a = .pointer (some ⟨g, 0, none⟩) → Blk w g f.T f.Z → (∀ e ∈ o.after, Region.binds .any e = true → R e.on (x e.on) w) →
    ∃ us, (∀ w', Kp w w' → f.PS (setL f.Z 0 us) w') ∧ ∀ K' : Act → World → Prop, Shut (∀ v, K' ((fr x).put o.dst v) (setFrom w g 0 us)) →
      if Region.wanted o (yielded ops (fr x).tmps) = true then Oper.wp P o (fr x) w K' Q else K' ((fr x).put o.dst undef) w
def OwnStep (i : Nat) (o : Oper) : Prop := ∃ f ∈ ow, i = f.s ∧ (∀ f' ∈ es, i ≠ f'.a ∧ i ≠ f'.s) ∧ (∀ f' ∈ ow, f'.s = i → f' = f) ∧ KT f.T = false ∧ (∀ v w, R i v w) ∧
  ∀ x w, Blk w f.g f.T f.Z → (∀ e ∈ o.after, Region.binds .any e = true → R e.on (x e.on) w) →
    ∃ us, (∀ w', Kp w w' → f.PS (setL f.Z f.o us) w') ∧ ∀ K' : Act → World → Prop, Shut (∀ v, K' ((fr x).put o.dst v) (setFrom w f.g f.o us)) →
      if Region.wanted o (yielded ops (fr x).tmps) = true then Oper.wp P o (fr x) w K' Q else K' ((fr x).put o.dst undef) w
end
theorem getD_set {L : Array Bool} {i j : Nat} (hi : i < L.size) : (L.setIfInBounds i true).getD j false = (decide (j = i) || L.getD j false) := by
  rw [Array.getD_eq_getD_getElem?, Array.getD_eq_getD_getElem?, Array.getElem?_setIfInBounds]
  by_cases h : i = j
  · subst h; simp [hi]
  · rw [if_neg h]; simp [show ¬ j = i from fun e => h e.symm]
section
variable {P : Program} {ops : Array Oper} {Q : Exit → Act → World → Prop} {fr : (Nat → Value) → Act} {R : Nat → Value → World → Prop} {es : List Flt} {ow : List Own} {B : Nat}
theorem wp_region_lin {id : Nat} {w : World} {x0 : Nat → Value} (hm : P.follows .mixedOrders = true)
    (hput : ∀ i o, ops[i]? = some o → ∀ x v, (fr x).put o.dst v = fr (upd x i v))
    (hac : ∀ i o, ops[i]? = some o → ∀ e ∈ o.after, Region.binds .any e = true → e.on < i)
    (hR : ∀ i v w w', R i v w → Kp w w' → R i v w')
    (hPS : ∀ f ∈ es, ∀ c w w', f.PS c w → Kp w w' → f.PS c w')
    (hPO : ∀ f ∈ ow, ∀ c w w', f.PS c w → Kp w w' → f.PS c w')
    (hfs : ∀ f ∈ es, f.a < ops.size ∧ f.s < ops.size)
    (hB : B ≤ w.heap.size)
    (hO : ∀ f ∈ ow, Blk w f.g f.T f.Z ∧ B ≤ f.g)
    (hOd : ∀ f ∈ ow, ∀ f' ∈ ow, f.g = f'.g → f = f')
    (hstep : ∀ i o, ops[i]? = some o → ValStep P ops Q fr R es ow w i o ∨ AllocStep P ops Q fr R es ow i o ∨ StoreStep P ops Q fr R es ow i o ∨ OwnStep P ops Q fr R es ow i o)
    (hend : ∀ x w', Kp w w' → Below B w w' → w.heap.size ≤ w'.heap.size → (∀ f ∈ ow, ∃ c, Blk w' f.g f.T c ∧ (ops.size ≤ f.s → c = f.Z) ∧ (f.s < ops.size → f.PS c w')) → (∀ i, i < ops.size → R i (x i) w') → (∀ f ∈ es, ∃ g c, x f.a = .pointer (some ⟨g, 0, none⟩) ∧ w.heap.size ≤ g ∧ Blk w' g f.T c ∧ f.PS c w') → (∀ f ∈ es, ∀ f' ∈ es, f.a ≠ f'.a → x f.a ≠ x f'.a) → Q .normal (fr x) w') :
    (Code.region id ops true).wp P Q (fr x0) w := by
  refine wp_region_any hm (wpAny_inv (fun L a w' => w.heap.size ≤ w'.heap.size ∧ LinA ops fr R es ow B w L a w') ?_ ?_ _ _ _ _ (by simp) ?_ ?_)
  · rintro L a w1 i hs hi ⟨hsz, x, rfl, ⟨hkW, hb⟩, hr, hcl, hf, hd, how⟩
    obtain ⟨hun, o, ho, hall⟩ := mem_ready.1 hi
    have hlt : i < L.size := by
      rcases Nat.lt_or_ge i L.size with h | h
      · exact h
      · rw [Array.getD_eq_getD_getElem?, Array.getElem?_eq_none h] at hun; cases hun
    have hunf : L.getD i false = false := by
      rw [Array.getD_eq_getD_getElem?, Array.getElem?_eq_getElem hlt] at hun ⊢; exact hun
    have hdep : ∀ e ∈ o.after, Region.binds .any e = true → R e.on (x e.on) w1 := fun e he hbd => hr _ (hall e he hbd)
    have hcl' : ∀ i' o', ops[i']? = some o' → (L.setIfInBounds i true).getD i' false = true → ∀ e ∈ o'.after, Region.binds .any e = true → (L.setIfInBounds i true).getD e.on false = true := by
      intro i' o' ho' hl e he hbd
      rw [getD_set hlt] at hl ⊢
      by_cases h : i' = i
      · subst h; rw [ho] at ho'; injection ho' with ho'; subst ho'
        rw [hall e he hbd]; simp
      · have : L.getD i' false = true := by simpa [h] using hl
        rw [hcl i' o' ho' this e he hbd]; simp
    refine wpOp_step ho fun K' hK => ?_
    have hsno : ∀ f ∈ ow, (∀ o', ops[f.s]? = some o' → ∃ e ∈ o'.after, Region.binds .any e = true ∧ e.on = i) → Blk w1 f.g f.T f.Z := by
      intro f hfo hdd
      obtain ⟨c, c1, c2, _⟩ := how f hfo
      have : L.getD f.s false = false := by
        cases h : L.getD f.s false
        · rfl
        · exfalso
          have hlt2 : f.s < ops.size := by
            rcases Nat.lt_or_ge f.s L.size with h2 | h2
            · omega
            · rw [Array.getD_eq_getD_getElem?, Array.getElem?_eq_none h2] at h; cases h
          obtain ⟨e, he, hbd, hea⟩ := hdd _ (Array.getElem?_eq_getElem hlt2)
          have := hcl f.s _ (Array.getElem?_eq_getElem hlt2) h e he hbd
          rw [hea, hunf] at this; cases this
      rw [← c2 this]; exact c1
    have howk : ∀ w', Kp w1 w' → (∀ g t c, Blk w1 g t c → (∃ f ∈ ow, f.g = g) → Blk w' g t c) → (∀ f ∈ ow, i ≠ f.s) → ∀ f ∈ ow, ∃ c, Blk w' f.g f.T c ∧ ((L.setIfInBounds i true).getD f.s false = false → c = f.Z) ∧ ((L.setIfInBounds i true).getD f.s false = true → f.PS c w') := by
      intro w' hkp hbl hne f hfo
      obtain ⟨c, c1, c2, c3⟩ := how f hfo
      have n2 := hne f hfo
      refine ⟨c, hbl _ _ _ c1 ⟨f, hfo, rfl⟩, fun h => c2 ?_, fun h => hPO f hfo _ _ _ (c3 ?_) hkp⟩
      · rw [getD_set hlt] at h; simpa [Ne.symm n2] using h
      · rw [getD_set hlt] at h; simpa [Ne.symm n2] using h
    rcases hstep i o ho with ⟨hno, hnow, hv⟩ | ⟨f, hf1, rfl, hnos, hnow, huniq, hRi, hv⟩ | ⟨f, hf1, rfl, hnoa, hnow, huniq, huniqa, hT, hRi, ⟨e, he, hbd, hea⟩, hv⟩ | ⟨f, hf1, rfl, hnoe, huniq, hT, hRi, hv⟩
    · refine hv x w1 hkW hsno hdep K' (fun v w' hRv hbw => hK _ _ ?_)
      have hkp : Kp w1 w' := (Kp.refl w1).below hbw
      refine ⟨Nat.le_trans hsz hbw.size, upd x i v, hput i o ho x v, ⟨hkW.trans hkp, hb.trans (hbw.mono (Nat.le_trans hB hsz))⟩, fun j hj => ?_, hcl', fun f hfe hfa => ?_, fun f hfe f' hfe' hne h1 h2 => ?_, howk w' hkp (fun g t c h _ => h.below hbw h.lt) hnow⟩
      · by_cases h : j = i
        · subst h; rw [upd_same]; exact hRv
        · rw [upd_ne _ _ h]; rw [getD_set hlt] at hj; exact hR _ _ _ _ (hr j (by simpa [h] using hj)) hkp
      · rw [getD_set hlt] at hfa
        have n1 := (hno f hfe).1
        have n2 := (hno f hfe).2
        rw [upd_ne _ _ (Ne.symm n1)]
        obtain ⟨g, c, e1, e2, e3, e4, e5⟩ := hf f hfe (by simpa [Ne.symm n1] using hfa)
        refine ⟨g, c, e1, e2, e3.below hbw e3.lt, fun h => e4 ?_, fun h => hPS f hfe _ _ _ (e5 ?_) hkp⟩
        · rw [getD_set hlt] at h; simpa [Ne.symm n2] using h
        · rw [getD_set hlt] at h; simpa [Ne.symm n2] using h
      · rw [getD_set hlt] at h1 h2
        have n1 := (hno f hfe).1
        have n2 := (hno f' hfe').1
        rw [upd_ne _ _ (Ne.symm n1), upd_ne _ _ (Ne.symm n2)]
        exact hd f hfe f' hfe' hne (by simpa [Ne.symm n1] using h1) (by simpa [Ne.symm n2] using h2)
    · refine hv x w1 K' (hK _ _ ?_)
      have hkp : Kp w1 (w1.alloc (.cells f.Z f.T)) := (Kp.refl w1).alloc _
      have hsl : L.getD f.s false = false := by
        cases h : L.getD f.s false
        · rfl
        · exfalso
          obtain ⟨o', ho'⟩ : ∃ o', ops[f.s]? = some o' := ⟨_, Array.getElem?_eq_getElem (hfs f hf1).2⟩
          rcases hstep f.s o' ho' with ⟨hno, _⟩ | ⟨f2, hf2, e2, hnos2, _⟩ | ⟨f2, hf2, e2, _, _, hu2, _, _, _, ⟨e, he, hbd, hea⟩, _⟩ | ⟨f2, hf2, e2, hno2, _⟩
          · exact (hno f hf1).2 rfl
          · exact hnos2 f hf1 rfl
          · have := hu2 f hf1 rfl
            subst this
            have := hcl f.s o' ho' h e he hbd
            rw [hea] at this
            rw [this] at hunf; cases hunf
          · exact (hno2 f hf1).2 rfl
      refine ⟨by simp; omega, upd x f.a _, hput f.a o ho x _, ⟨hkW.alloc _, hb.alloc (Nat.le_trans hB hsz) _⟩, fun j hj => ?_, hcl', fun f' hfe hfa => ?_, fun f1 hfe f2 hfe' hne h1 h2 => ?_, howk _ hkp (fun g t c h _ => h.alloc _) hnow⟩
      · by_cases h : j = f.a
        · subst h; exact hRi _ _
        · rw [upd_ne _ _ h]; rw [getD_set hlt] at hj; exact hR _ _ _ _ (hr j (by simpa [h] using hj)) hkp
      · by_cases h : f'.a = f.a
        · have := huniq f' hfe h
          subst this
          rw [upd_same]
          refine ⟨_, _, rfl, hsz, Blk.new _ _ _, fun _ => rfl, fun h' => ?_⟩
          rw [getD_set hlt, hsl] at h'
          have : f'.s = f'.a := by simpa using h'
          exact absurd this.symm (hnos f' hfe)
        · rw [upd_ne _ _ h]
          rw [getD_set hlt] at hfa
          have n2 := hnos f' hfe
          obtain ⟨g, c, e1, e2, e3, e4, e5⟩ := hf f' hfe (by simpa [h] using hfa)
          refine ⟨g, c, e1, e2, e3.alloc _, fun h => e4 ?_, fun h => hPS f' hfe _ _ _ (e5 ?_) hkp⟩
          · rw [getD_set hlt] at h; simpa [Ne.symm n2] using h
          · rw [getD_set hlt] at h; simpa [Ne.symm n2] using h
      · rw [getD_set hlt] at h1 h2
        have fresh : ∀ f3 ∈ es, f3.a ≠ f.a → L.getD f3.a false = true → x f3.a ≠ .pointer (some ⟨w1.heap.size, 0, none⟩) := by
          intro f3 h3 hne3 hl3 heq
          obtain ⟨g, c, e1, e2, e3, _⟩ := hf f3 h3 hl3
          rw [e1] at heq
          have hg := e3.lt
          injection heq with heq; injection heq with heq; injection heq with heq
          omega
        by_cases c1 : f1.a = f.a
        · have c2 : f2.a ≠ f.a := fun h => hne (c1.trans h.symm)
          rw [c1, upd_same, upd_ne _ _ c2]
          exact (fresh f2 hfe' c2 (by simpa [c2] using h2)).symm
        · rw [upd_ne _ _ c1]
          by_cases c2 : f2.a = f.a
          · rw [c2, upd_same]; exact fresh f1 hfe c1 (by simpa [c1] using h1)
          · rw [upd_ne _ _ c2]; exact hd f1 hfe f2 hfe' hne (by simpa [c1] using h1) (by simpa [c2] using h2)
    · have hal : L.getD f.a false = true := by rw [← hea]; exact hall e he hbd
      obtain ⟨g, c, e1, e2, e3, e4, e5⟩ := hf f hf1 hal
      have hc := e4 hunf
      subst hc
      obtain ⟨us, hus, hv⟩ := hv x w1 g e1 e3 hdep
      refine hv K' (fun v => hK _ _ ?_)
      have hkp : Kp w1 (setFrom w1 g 0 us) := setFrom_kp hT us 0 w1 _ f.hZ.h e3
      have hnb : ∀ f3 ∈ es, f3.a ≠ f.s := fun f3 h3 h => hnoa f3 h3 h.symm
      refine ⟨Nat.le_trans hsz (Nat.le_of_eq (setFrom_size us 0 w1).symm), upd x f.s v, hput f.s o ho x v, ⟨hkW.trans hkp, setFrom_below (Nat.le_trans hB e2) us 0 w1 hb⟩, fun j hj => ?_, hcl', fun f' hfe hfa => ?_, fun f1 hfe f2 hfe' hne h1 h2 => ?_, howk _ hkp (fun g2 t c h hex => setFrom_far (by obtain ⟨f2, h2, rfl⟩ := hex; have := (hO f2 h2).1.lt; omega) us 0 w1 h) hnow⟩
      · by_cases h : j = f.s
        · subst h; exact hRi _ _
        · rw [upd_ne _ _ h]; rw [getD_set hlt] at hj; exact hR _ _ _ _ (hr j (by simpa [h] using hj)) hkp
      · rw [upd_ne _ _ (hnb f' hfe)]
        rw [getD_set hlt] at hfa
        by_cases h : f'.a = f.a
        · have := huniqa f' hfe h
          subst this
          refine ⟨g, _, e1, e2, setFrom_blk us 0 w1 _ e3, fun h' => ?_, fun _ => hus _ hkp⟩
          rw [getD_set hlt] at h'; simp at h'
        · have n2 : f'.s ≠ f.s := fun h2 => h (by rw [huniq f' hfe h2])
          obtain ⟨g', c', d1, d2, d3, d4, d5⟩ := hf f' hfe (by simpa [hnb f' hfe] using hfa)
          have hgg : g' ≠ g := by
            rintro rfl
            exact hd f' hfe f hf1 h (by simpa [hnb f' hfe] using hfa) hal (d1.trans e1.symm)
          refine ⟨g', c', d1, d2, setFrom_far hgg us 0 w1 d3, fun h => d4 ?_, fun h => hPS f' hfe _ _ _ (d5 ?_) hkp⟩
          · rw [getD_set hlt] at h; simpa [n2] using h
          · rw [getD_set hlt] at h; simpa [n2] using h
      · rw [getD_set hlt] at h1 h2
        rw [upd_ne _ _ (hnb f1 hfe), upd_ne _ _ (hnb f2 hfe')]
        exact hd f1 hfe f2 hfe' hne (by simpa [hnb f1 hfe] using h1) (by simpa [hnb f2 hfe'] using h2)
    · obtain ⟨c, c1, c2, _⟩ := how f hf1
      have hc := c2 hunf
      subst hc
      obtain ⟨us, hus, hv⟩ := hv x w1 c1 hdep
      refine hv K' (fun v => hK _ _ ?_)
      have hkp : Kp w1 (setFrom w1 f.g f.o us) := setFrom_kp hT us f.o w1 _ f.hZ.h c1
      have hna : ∀ f3 ∈ es, f3.a ≠ f.s := fun f3 h3 h => (hnoe f3 h3).1 h.symm
      have hns : ∀ f3 ∈ es, f3.s ≠ f.s := fun f3 h3 h => (hnoe f3 h3).2 h.symm
      have hgl := (hO f hf1).1.lt
      refine ⟨Nat.le_trans hsz (Nat.le_of_eq (setFrom_size us f.o w1).symm), upd x f.s v, hput f.s o ho x v, ⟨hkW.trans hkp, setFrom_below (hO f hf1).2 us f.o w1 hb⟩, fun j hj => ?_, hcl', fun f' hfe hfa => ?_, fun f1 hfe f2 hfe' hne h1 h2 => ?_, fun f' hfo => ?_⟩
      · by_cases h : j = f.s
        · subst h; exact hRi _ _
        · rw [upd_ne _ _ h]; rw [getD_set hlt] at hj; exact hR _ _ _ _ (hr j (by simpa [h] using hj)) hkp
      · rw [upd_ne _ _ (hna f' hfe)]
        rw [getD_set hlt] at hfa
        have n2 := hns f' hfe
        obtain ⟨g', c', d1, d2, d3, d4, d5⟩ := hf f' hfe (by simpa [hna f' hfe] using hfa)
        refine ⟨g', c', d1, d2, setFrom_far (by omega) us f.o w1 d3, fun h => d4 ?_, fun h => hPS f' hfe _ _ _ (d5 ?_) hkp⟩
        · rw [getD_set hlt] at h; simpa [n2] using h
        · rw [getD_set hlt] at h; simpa [n2] using h
      · rw [getD_set hlt] at h1 h2
        rw [upd_ne _ _ (hna f1 hfe), upd_ne _ _ (hna f2 hfe')]
        exact hd f1 hfe f2 hfe' hne (by simpa [hna f1 hfe] using h1) (by simpa [hna f2 hfe'] using h2)
      · by_cases h : f'.s = f.s
        · have := huniq f' hfo h
          subst this
          refine ⟨_, setFrom_blk us f'.o w1 _ c1, fun h' => ?_, fun _ => hus _ hkp⟩
          rw [getD_set hlt] at h'; simp at h'
        · obtain ⟨c', d3, d4, d5⟩ := how f' hfo
          have hgg : f'.g ≠ f.g := fun h2 => h (by rw [hOd f' hfo f hf1 h2])
          refine ⟨c', setFrom_far hgg us f.o w1 d3, fun h2 => d4 ?_, fun h2 => hPO f' hfo _ _ _ (d5 ?_) hkp⟩
          · rw [getD_set hlt] at h2; simpa [h] using h2
          · rw [getD_set hlt] at h2; simpa [h] using h2
  · rintro L a w1 hs hr0 ⟨hsz, x, rfl, ⟨hkW, hb⟩, hr, hcl, hf, hd, how⟩
    have hallL : ∀ i, i < ops.size → L.getD i false = true := by
      intro i
      induction i using Nat.strongRecOn with
      | ind i ih =>
        intro hi
        cases h : L.getD i false
        · exfalso
          have : i ∈ Region.ready .any ops L := by
            refine mem_ready.2 ⟨?_, ops[i], Array.getElem?_eq_getElem hi, fun e he hbd => ?_⟩
            · rw [Array.getD_eq_getD_getElem?, Array.getElem?_eq_getElem (by omega)] at h ⊢; exact h
            · have h1 := hac i _ (Array.getElem?_eq_getElem hi) e he hbd
              exact ih e.on h1 (by omega)
          rw [hr0] at this; cases this
        · rfl
    refine hend x w1 hkW hb hsz (fun f hfo => ?_) (fun i hi => hr i (hallL i hi)) (fun f hfe => ?_) (fun f hfe f' hfe' hne => hd f hfe f' hfe' hne (hallL _ (hfs f hfe).1) (hallL _ (hfs f' hfe').1))
    · obtain ⟨c, c1, c2, c3⟩ := how f hfo
      refine ⟨c, c1, fun h => c2 ?_, fun h => c3 (hallL _ h)⟩
      rw [Array.getD_eq_getD_getElem?, Array.getElem?_eq_none (by omega)]; rfl
    obtain ⟨g, c, e1, e2, e3, _, e5⟩ := hf f hfe (hallL _ (hfs f hfe).1)
    exact ⟨g, c, e1, e2, e3, e5 (hallL _ (hfs f hfe).2)⟩
  · simp
  · have hz : ∀ j, (Array.replicate ops.size false).getD j false = false := by
      intro j; rw [Array.getD_eq_getD_getElem?, Array.getElem?_replicate]; split <;> rfl
    refine ⟨Nat.le_refl _, x0, rfl, ⟨(Kp.refl w).drew, (Below.refl B w).drew⟩, fun i h => ?_, fun i o _ h => ?_, fun f _ h => ?_, fun f _ f' _ _ h => ?_, fun f hfo => ⟨_, (hO f hfo).1.drew, fun _ => rfl, fun h => ?_⟩⟩ <;> rw [hz] at h <;> cases h
end

theorem ownDist {ow : List Own} (h : ow.Pairwise (fun f f' => f.g ≠ f'.g)) : ∀ f ∈ ow, ∀ f' ∈ ow, f.g = f'.g → f = f' := by
  induction ow with
  | nil => intro f hf; cases hf
  | cons a l ih =>
    obtain ⟨h1, h2⟩ := List.pairwise_cons.1 h
    intro f hf f' hf' he
    rcases List.mem_cons.1 hf with h3 | h3
    · rcases List.mem_cons.1 hf' with h4 | h4
      · rw [h3, h4]
      · exact absurd (h3 ▸ he) (h1 _ h4)
    · rcases List.mem_cons.1 hf' with h4 | h4
      · exact absurd (h4 ▸ he).symm (h1 _ h3)
      · exact ih h2 f h3 f' h4 he
def EachFrom (S : Nat → Oper → Prop) : Nat → List Oper → Prop
  | _, [] => True
  | k, o :: l => S k o ∧ EachFrom S (k + 1) l
theorem each_from {S : Nat → Oper → Prop} : ∀ (l : List Oper) (k : Nat), EachFrom S k l → ∀ i o, l[i]? = some o → S (k + i) o := by
  intro l
  induction l with
  | nil => intro k _ i o h; simp at h
  | cons a l ih =>
    intro k h i o ho
    cases i with
    | zero => simp at ho; subst ho; exact h.1
    | succ i =>
      have := ih (k + 1) h.2 i o (by simpa using ho)
      rw [show k + (i + 1) = k + 1 + i by omega]; exact this
theorem each_of {S : Nat → Oper → Prop} {l : List Oper} (h : EachFrom S 0 l) : ∀ i o, (l.toArray)[i]? = some o → S i o := fun i o ho => by
  have := each_from l 0 h i o (by simpa using ho)
  rwa [Nat.zero_add] at this
def acycB : Nat → List Oper → Bool
  | _, [] => true
  | k, o :: l => o.after.all (fun e => !Region.binds .any e || decide (e.on < k)) && acycB (k + 1) l
theorem acyc_from : ∀ (l : List Oper) (k : Nat), acycB k l = true → EachFrom (fun i o => ∀ e ∈ o.after, Region.binds .any e = true → e.on < i) k l := by
  intro l
  induction l with
  | nil => intro k _; trivial
  | cons a l ih =>
    intro k h
    simp only [acycB, Bool.and_eq_true] at h
    refine ⟨fun e he hb => ?_, ih _ h.2⟩
    have := (Array.all_eq_true_iff_forall_mem.1 h.1) e he
    rw [hb] at this
    simpa using this
def Stab (p : Value → World → Prop) : Prop := ∀ v w w', p v w → Kp w w' → p v w'
def AllStab : List (Value → World → Prop) → Prop
  | [] => True
  | p :: l => Stab p ∧ AllStab l
theorem AllStab.get : ∀ (l : List (Value → World → Prop)), AllStab l → ∀ i v w w', l.getD i (fun _ _ => True) v w → Kp w w' → l.getD i (fun _ _ => True) v w' := by
  intro l
  induction l with
  | nil => intro _ i v w w' _ _; simp
  | cons p l ih =>
    intro h i v w w' hp hk
    cases i with
    | zero => exact h.1 v w w' hp hk
    | succ i => exact ih h.2 i v w w' hp hk
def PEq (u : Value) : Value → World → Prop := fun v _ => v = u
def PAny : Value → World → Prop := fun _ _ => True
def VI (z : Int) (k : Nat) : Value → World → Prop := fun v w => ∃ b A n c, v = .agg #[.bool b, .slice A n c] ∧ IV w b A n c z k
def VQ (q : Rat) (k : Nat) : Value → World → Prop := fun v w => ∃ b A n c D m e, v = .agg #[.bool b, .slice A n c, .slice D m e] ∧ QV w b A n c D m e q k
theorem stEq (u : Value) : Stab (PEq u) := fun _ _ _ h _ => h
theorem stI (z : Int) (k : Nat) : Stab (VI z k) := fun _ _ _ ⟨b, A, n, c, e, h⟩ hk => ⟨b, A, n, c, e, h.keep hk⟩
def CAny : Array Value → World → Prop := fun _ _ => True
theorem scAny : ∀ c w w', CAny c w → Kp w w' → CAny c w' := fun _ _ _ h _ => h
def PV (w : World) (b : Bool) (A : Option Addr) (n c : Nat) (D : Option Addr) (m e : Nat) (b' : Bool) (A' : Option Addr) (n' c' : Nat) (D' : Option Addr) (m' e' : Nat) (q : Rat) (k : Nat) (r : Rat) (j : Nat) : Prop := QV w b A n c D m e q k ∧ QV w b' A' n' c' D' m' e' r j
theorem PV.keep {w w' : World} {b b' : Bool} {A D A' D' : Option Addr} {n c m e n' c' m' e' k j : Nat} {q r : Rat} (h : PV w b A n c D m e b' A' n' c' D' m' e' q k r j) (hk : Kp w w') : PV w' b A n c D m e b' A' n' c' D' m' e' q k r j := ⟨h.1.keep hk, h.2.keep hk⟩
theorem PV.belw {w w' : World} {b b' : Bool} {A D A' D' : Option Addr} {n c m e n' c' m' e' k j : Nat} {q r : Rat} (h : PV w b A n c D m e b' A' n' c' D' m' e' q k r j) (hk : Below w.heap.size w w') : PV w' b A n c D m e b' A' n' c' D' m' e' q k r j := ⟨h.1.belw hk, h.2.belw hk⟩
end Go.Proofs.YtoiijifnfdgfpaaGreatDoor

/- Walks: sums of turns. -/
namespace Go.Proofs.YtoiijifnfdgfpaaGreatDoor
open Go Go.RowKit Bn
attribute [local go_sem ↓] Go.wp_at_zero Go.wp_at_succ
theorem QK.qv {w : World} {b : Bool} {A D : Option Addr} {n c m e k : Nat} {q : Rat} (h : QK w b A n c D m e q k) : QV w b A n c D m e q k := by
  obtain ⟨a, h1, rfl, h2⟩ := h
  unfold QV; rw [rd_of_ok h1.2.1.1 h1.2.2.1.1 h2]; exact h1
theorem TK.tv {w : World} {b x : Bool} {A D : Option Addr} {n c m e k : Nat} {t : TN} (h : TK w b A n c D m e x t k) : TV w b A n c D m e x t k := ⟨h.1.qv, h.2⟩
end Go.Proofs.YtoiijifnfdgfpaaGreatDoor

/- Walks: the first error of some turns. -/
namespace Go.Proofs.YtoiijifnfdgfpaaGreatDoor
open Go Go.RowKit Bn
attribute [local go_sem ↓] Go.wp_at_zero Go.wp_at_succ
def Ts (w : World) (g n k : Nat) : Prop := g < w.heap.size ∧ ∀ i, i < n → ∃ b A m c D m' e x t, w.cell? ⟨g, i * 4, none⟩ = some (.bool b) ∧ w.cell? ⟨g, i * 4 + 1, none⟩ = some (.slice A m c) ∧ w.cell? ⟨g, i * 4 + 2, none⟩ = some (.slice D m' e) ∧ w.cell? ⟨g, i * 4 + 3, none⟩ = some (.bool x) ∧ TK w b A m c D m' e x t k
theorem Ts.belw {w w' : World} {g n k : Nat} (h : Ts w g n k) (hb : Below w.heap.size w w') : Ts w' g n k := by
  obtain ⟨hg, h⟩ := h
  have hc := (bcell hb).1
  refine ⟨Nat.lt_of_lt_of_le hg hb.size, fun i hi => ?_⟩
  obtain ⟨b, A, m, c, D, m', e, x, t, h1, h2, h3, h4, h5⟩ := h i hi
  exact ⟨b, A, m, c, D, m', e, x, t, (hc _ _ hg).trans h1, (hc _ _ hg).trans h2, (hc _ _ hg).trans h3, (hc _ _ hg).trans h4, h5.belw hb⟩
end Go.Proofs.YtoiijifnfdgfpaaGreatDoor

/- Walks: the laws' own small functions: short, good. -/
namespace Go.Proofs.YtoiijifnfdgfpaaGreatDoor
open Go Go.RowKit Bn
attribute [local go_sem ↓] Go.wp_at_zero Go.wp_at_succ
def Rs (w : World) (g N : Nat) (ns ms : Nat → Nat) : Prop := g < w.heap.size ∧ ∀ i, i < N → ∃ b A c D e, w.cell? ⟨g, i * 3, none⟩ = some (.bool b) ∧ w.cell? ⟨g, i * 3 + 1, none⟩ = some (.slice A (ns i) c) ∧ w.cell? ⟨g, i * 3 + 2, none⟩ = some (.slice D (ms i) e)
theorem Rs.belw {w w' : World} {g N : Nat} {ns ms : Nat → Nat} (h : Rs w g N ns ms) (hb : Below w.heap.size w w') : Rs w' g N ns ms := by
  obtain ⟨hg, h⟩ := h
  have hc := (bcell hb).1
  refine ⟨Nat.lt_of_lt_of_le hg hb.size, fun i hi => ?_⟩
  obtain ⟨b, A, c, D, e, h1, h2, h3⟩ := h i hi
  exact ⟨b, A, c, D, e, (hc _ _ hg).trans h1, (hc _ _ hg).trans h2, (hc _ _ hg).trans h3⟩
def Gs (w : World) (g N k : Nat) (rs : Nat → RD) (xs : Nat → Bool) : Prop := g < w.heap.size ∧ ∀ i, i < N → ∃ b A m c D m' e, w.cell? ⟨g, i * 4, none⟩ = some (.bool b) ∧ w.cell? ⟨g, i * 4 + 1, none⟩ = some (.slice A m c) ∧ w.cell? ⟨g, i * 4 + 2, none⟩ = some (.slice D m' e) ∧ w.cell? ⟨g, i * 4 + 3, none⟩ = some (.bool (xs i)) ∧ QD w b A m c D m' e (rs i) k
theorem Gs.belw {w w' : World} {g N k : Nat} {rs : Nat → RD} {xs : Nat → Bool} (h : Gs w g N k rs xs) (hb : Below w.heap.size w w') : Gs w' g N k rs xs := by
  obtain ⟨hg, h⟩ := h
  have hc := (bcell hb).1
  refine ⟨Nat.lt_of_lt_of_le hg hb.size, fun i hi => ?_⟩
  obtain ⟨b, A, m, c, D, m', e, h1, h2, h3, h4, h5⟩ := h i hi
  exact ⟨b, A, m, c, D, m', e, (hc _ _ hg).trans h1, (hc _ _ hg).trans h2, (hc _ _ hg).trans h3, (hc _ _ hg).trans h4, h5.belw hb⟩
end Go.Proofs.YtoiijifnfdgfpaaGreatDoor

/- Walks: equal fields of equal fractions. -/
namespace Go.Proofs.YtoiijifnfdgfpaaGreatDoor
open Go Go.RowKit Bn
attribute [local go_sem ↓] Go.wp_at_zero Go.wp_at_succ
theorem b_words (w : World) (A n c l) (wa : Wd w A n c l) (A' : Option Addr) (n' c' : Nat) (wb : Wd w A' n' c' l) (hn : n ≤ 1000000000) :
  Calls Tryz.prog 80 #[.slice A n c, .slice A' n' c'] w (RetV w (.bool true)) := by
 have hnn : n' = n := by rw [wa.2.1, wb.2.1]
 subst hnn
 have HA := Lib.hid wa
 have HB := Lib.hid wb
 clear wa wb
 go_enter Tryz.func80, Tryz.ntmps80
 go_wp2_with fail
 go_loopw [5] (fun iv wr => ∃ (i q : Nat), i ≤ n' ∧ iv = .int .i64 (i : Nat) ∧ wr = w.drewN q) (fun iv _ => n' - (intOf iv).toNat)
 case atStart => exact ⟨0, 0, Nat.zero_le _, rfl, rfl⟩
 case round =>
  obtain ⟨i, q, hi, rfl, rfl⟩ := hrel
  by_cases hlt : i < n'
  ·obtain ⟨g, o, rfl, hc1⟩ := HA.out.at_ (by omega)
   obtain ⟨g', o', rfl, hc2⟩ := HB.out.at_ (by omega)
   have h1 := hc1 i hlt
   have h2 := hc2 i hlt
   have hi0 : (0 : Int) ≤ (i : Int) := by omega
   have hi1 : (i : Int) < (n' : Int) := by omega
   generalize wd l i = x at h1 h2
   clear hc1 hc2
   go_wp2_with fail
   go_quiet (fail)
   go_wp2
   go_roundw
   case rel => exact ⟨i + 1, _, by omega, by go_num, rfl⟩
   case measure => simp [intOf]; omega
  ·go_wp2
   go_ret
   exact retB rfl (by repeat (first | exact Below.refl _ _ | refine below_drewN ?_ _))
end Go.Proofs.YtoiijifnfdgfpaaGreatDoor

/- Decimal texts: plain numbers and lists of bytes. -/
namespace Bn
open Go.Lib
theorem dec_push {q d : Nat} (hq : 0 < q) (hd : d < 10) : decDigits (q * 10 + d) = decDigits q ++ [UInt8.ofNat (48 + d)] := by
  rw [decDigits, dif_neg (by omega), show (q * 10 + d) / 10 = q by omega, show (q * 10 + d) % 10 = d by omega]
def padN : Nat → Nat → List UInt8
  | 0, _ => []
  | k + 1, r => padN k (r / 10) ++ [UInt8.ofNat (48 + r % 10)]
theorem dec_pad : ∀ (k : Nat) {q r : Nat}, 0 < q → r < 10 ^ k → decDigits (q * 10 ^ k + r) = decDigits q ++ padN k r
  | 0, q, r, _, hr => by
    have : r = 0 := by simpa using hr
    subst this
    simp [padN]
  | k + 1, q, r, hq, hr => by
    have h1 : r / 10 < 10 ^ k := by rw [Nat.pow_succ] at hr; omega
    have h2 : 0 < q * 10 ^ k := Nat.mul_pos hq (Nat.pow_pos (by omega))
    have e : q * 10 ^ (k + 1) + r = (q * 10 ^ k + r / 10) * 10 + r % 10 := by
      rw [Nat.pow_succ, ← Nat.mul_assoc]
      generalize q * 10 ^ k = P
      omega
    rw [e, dec_push (by omega) (Nat.mod_lt _ (by omega)), dec_pad k hq h1, padN, List.append_assoc]
theorem nDig_le : ∀ {k u : Nat}, 0 < k → u < 10 ^ k → nDigits u ≤ k
  | 0, _, h, _ => absurd h (by omega)
  | k + 1, u, _, hu => by
    by_cases h : u < 10
    · rw [nDigits_small h]; omega
    · rw [nDigits_big h]
      have h0 : k ≠ 0 := by rintro rfl; exact h (by simpa using hu)
      have := nDig_le (k := k) (u := u / 10) (by omega) (by rw [Nat.pow_succ] at hu; omega)
      omega
theorem pad_zero : ∀ k, padN k 0 = repeatL [48] k
  | 0 => rfl
  | k + 1 => by rw [padN, pad_zero k, repeatL_add, repeatL_one]; rfl
theorem pad_eq : ∀ {k r : Nat}, 0 < k → r < 10 ^ k → padN k r = repeatL [48] (k - nDigits r) ++ decDigits r
  | 0, _, h, _ => absurd h (by omega)
  | k + 1, r, _, hr => by
    rw [padN]
    by_cases h : r < 10
    · rw [Nat.div_eq_of_lt h, pad_zero, nDigits_small h, decDigits_one h, Nat.mod_eq_of_lt h]; rfl
    · have h0 : k ≠ 0 := by rintro rfl; exact h (by simpa using hr)
      rw [pad_eq (k := k) (r := r / 10) (by omega) (by rw [Nat.pow_succ] at hr; omega), nDigits_big h, List.append_assoc]
      congr 1
      · congr 1; omega
      · conv => rhs; rw [decDigits, dif_neg h]
def TxtI (N q : Nat) (ps : List (List UInt8)) : Prop := (0 < q → decDigits N = decDigits q ++ ps.flatten) ∧ (q = 0 → decDigits N = ps.flatten) ∧ ps.length ≤ ps.flatten.length
theorem TxtI.start {N : Nat} (h : 0 < N) : TxtI N N [] := ⟨fun _ => by simp, fun e => absurd e (by omega), by simp⟩
theorem TxtI.more {N q : Nat} {ps : List (List UInt8)} (h : TxtI N q ps) (hq : 0 < q / 1000000000) :
    TxtI N (q / 1000000000) ((repeatL [48] (9 - nDigits (q % 1000000000)) ++ decDigits (q % 1000000000)) :: ps) := by
  have hr : q % 1000000000 < 10 ^ 9 := Nat.mod_lt _ (by omega)
  have e : q / 1000000000 * 10 ^ 9 + q % 1000000000 = q := by rw [Nat.mul_comm]; exact Nat.div_add_mod q 1000000000
  refine ⟨fun _ => ?_, fun e => absurd e (by omega), ?_⟩
  · rw [h.1 (by omega), List.flatten_cons, ← List.append_assoc, ← pad_eq (by omega) hr, ← dec_pad 9 hq hr, e]
  · have h3 := h.2.2
    have h4 := nDigits_pos (q % 1000000000)
    simp only [List.length_cons, List.flatten_cons, List.length_append, decDigits_length]
    omega
theorem TxtI.last {N q : Nat} {ps : List (List UInt8)} (h : TxtI N q ps) (h0 : 0 < q) (hq : q / 1000000000 = 0) :
    TxtI N (q / 1000000000) (decDigits (q % 1000000000) :: ps) := by
  have e : q % 1000000000 = q := Nat.mod_eq_of_lt (by omega)
  rw [e]
  refine ⟨fun e => absurd e (by omega), fun _ => ?_, ?_⟩
  · rw [h.1 h0, List.flatten_cons]
  · have h3 := h.2.2
    have h4 := nDigits_pos q
    simp only [List.length_cons, List.flatten_cons, List.length_append, decDigits_length]
    omega
theorem TxtI.len {N q : Nat} {ps : List (List UInt8)} (h : TxtI N q ps) : ps.flatten.length ≤ nDigits N ∧ ps.length ≤ nDigits N := by
  have h3 := h.2.2
  have : ps.flatten.length ≤ nDigits N := by
    rw [← decDigits_length]
    rcases Nat.eq_zero_or_pos q with e | e
    · rw [h.2.1 e]; exact Nat.le_refl _
    · rw [h.1 e, List.length_append]; omega
  exact ⟨this, by omega⟩
theorem nDig_words {N n : Nat} (hn : 0 < n) (h : N < 4294967296 ^ n) : nDigits N ≤ 10 * n := by
  refine nDig_le (by omega) (Nat.lt_of_lt_of_le h ?_)
  rw [Nat.pow_mul]
  exact Nat.pow_le_pow_left (by omega) n
theorem nDig_words' {N n K : Nat} (hK : n ≤ K) (h0 : 0 < K) (h : N < 4294967296 ^ n) : nDigits N ≤ 10 * K :=
  nDig_words h0 (Nat.lt_of_lt_of_le h (Nat.pow_le_pow_right (by omega) hK))
theorem join_flat (ps : List (List UInt8)) : join ps [] = ps.flatten := by
  cases ps with
  | nil => rfl
  | cons x r => rw [join_cons, joinTail]; simp
theorem itoa_abs (z : Int) : itoa z = (if z < 0 then [45] else []) ++ decDigits z.natAbs := by
  unfold itoa
  split
  · rfl
  · rw [show z.toNat = z.natAbs by omega]; rfl
end Bn
