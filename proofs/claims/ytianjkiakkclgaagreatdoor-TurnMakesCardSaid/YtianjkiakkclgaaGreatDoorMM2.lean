/- Part MM2: lemmas and walks that the claim rests on. No claim is made here. -/
import Derived.Deep.DeepCutAuto
import Derived.Deep.RegionHeld3
import Derived.Deep.DrawnRows
import Derived.Deep.AppendLies
import Derived.Deep.RegionHeld
import Derived.Test.YtianjkiakkclgaaGreatDoorMM1
set_option linter.unusedVariables false
set_option maxHeartbeats 8000000
set_option maxRecDepth 100000
/- Integers and fractions as values: what the walks of the layers above lean on. -/
namespace Go.Proofs.YtianjkiakkclgaaGreatDoor
open Go Go.RowKit Bn
attribute [local go_sem ↓] Go.wp_at_zero Go.wp_at_succ

def IZ (w : World) (b : Bool) (A : Option Addr) (n c : Nat) (z : Int) (k : Nat) : Prop := ∃ l, Wd w A n c l ∧ WD.z ⟨b, l⟩ = z ∧ n ≤ k
def IV (w : World) (b : Bool) (A : Option Addr) (n c : Nat) (z : Int) (k : Nat) : Prop := b = (wh z).neg ∧ Wd w A n c (wh z).mag ∧ n ≤ k
def QD (w : World) (b : Bool) (A : Option Addr) (n c : Nat) (A' : Option Addr) (n' c' : Nat) (a : RD) (k : Nat) : Prop := a.neg = b ∧ Wd w A n c a.num ∧ Wd w A' n' c' a.den ∧ n ≤ k ∧ n' ≤ k
def QZ (w : World) (b : Bool) (A : Option Addr) (n c : Nat) (A' : Option Addr) (n' c' : Nat) (q : Rat) (k : Nat) : Prop := ∃ a, QD w b A n c A' n' c' a k ∧ a.q = q
def QV (w : World) (b : Bool) (A : Option Addr) (n c : Nat) (A' : Option Addr) (n' c' : Nat) (q : Rat) (k : Nat) : Prop := QD w b A n c A' n' c' (rd q) k
section
variable {w w' : World} {b : Bool} {A A' : Option Addr} {n c n' c' k j : Nat} {z : Int} {q : Rat} {a : RD}
theorem IV.iz (h : IV w b A n c z k) : IZ w b A n c z k := by
  obtain ⟨rfl, h1, h2⟩ := h
  exact ⟨_, h1, wh_z z, h2⟩
theorem IZ.belw (h : IZ w b A n c z k) (hb : Below w.heap.size w w') : IZ w' b A n c z k := by
  obtain ⟨l, h1, h2, h3⟩ := h; exact ⟨l, h1.belw hb, h2, h3⟩
theorem IV.belw (h : IV w b A n c z k) (hb : Below w.heap.size w w') : IV w' b A n c z k := ⟨h.1, h.2.1.belw hb, h.2.2⟩
theorem IZ.keep (h : IZ w b A n c z k) (hb : Kp w w') : IZ w' b A n c z k := by
  obtain ⟨l, h1, h2, h3⟩ := h; exact ⟨l, h1.keep hb, h2, h3⟩
theorem IV.keep (h : IV w b A n c z k) (hb : Kp w w') : IV w' b A n c z k := ⟨h.1, h.2.1.keep hb, h.2.2⟩
theorem IZ.mono (h : IZ w b A n c z k) (hk : k ≤ j) : IZ w b A n c z j := by
  obtain ⟨l, h1, h2, h3⟩ := h; exact ⟨l, h1, h2, Nat.le_trans h3 hk⟩
theorem IV.mono (h : IV w b A n c z k) (hk : k ≤ j) : IV w b A n c z j := ⟨h.1, h.2.1, Nat.le_trans h.2.2 hk⟩
theorem QD.belw (h : QD w b A n c A' n' c' a k) (hb : Below w.heap.size w w') : QD w' b A n c A' n' c' a k := ⟨h.1, h.2.1.belw hb, h.2.2.1.belw hb, h.2.2.2⟩
theorem QD.keep (h : QD w b A n c A' n' c' a k) (hb : Kp w w') : QD w' b A n c A' n' c' a k := ⟨h.1, h.2.1.keep hb, h.2.2.1.keep hb, h.2.2.2⟩
theorem QD.mono (h : QD w b A n c A' n' c' a k) (hk : k ≤ j) : QD w b A n c A' n' c' a j := ⟨h.1, h.2.1, h.2.2.1, Nat.le_trans h.2.2.2.1 hk, Nat.le_trans h.2.2.2.2 hk⟩
theorem QD.qz (h : QD w b A n c A' n' c' a k) : QZ w b A n c A' n' c' a.q k := ⟨a, h, rfl⟩
theorem QZ.belw (h : QZ w b A n c A' n' c' q k) (hb : Below w.heap.size w w') : QZ w' b A n c A' n' c' q k := by
  obtain ⟨a, h1, h2⟩ := h; exact ⟨a, h1.belw hb, h2⟩
theorem QZ.keep (h : QZ w b A n c A' n' c' q k) (hb : Kp w w') : QZ w' b A n c A' n' c' q k := by
  obtain ⟨a, h1, h2⟩ := h; exact ⟨a, h1.keep hb, h2⟩
theorem QZ.mono (h : QZ w b A n c A' n' c' q k) (hk : k ≤ j) : QZ w b A n c A' n' c' q j := by
  obtain ⟨a, h1, h2⟩ := h; exact ⟨a, h1.mono hk, h2⟩
theorem QV.qz (h : QV w b A n c A' n' c' q k) : QZ w b A n c A' n' c' q k := ⟨_, h, rd_q q⟩
theorem QV.belw (h : QV w b A n c A' n' c' q k) (hb : Below w.heap.size w w') : QV w' b A n c A' n' c' q k := QD.belw h hb
theorem QV.keep (h : QV w b A n c A' n' c' q k) (hb : Kp w w') : QV w' b A n c A' n' c' q k := QD.keep h hb
theorem QV.mono (h : QV w b A n c A' n' c' q k) (hk : k ≤ j) : QV w b A n c A' n' c' q j := QD.mono h hk
theorem WD.z_lt {l : List Nat} (h : Wd w A n c l) (hk : n ≤ k) : (WD.z ⟨b, l⟩).natAbs < 4294967296 ^ k := by
  have h1 := h.vlt hk
  have h2 := pow_pos' k
  unfold WD.z
  split
  · simp only; split <;> omega
  · simpa using h2
theorem IZ.lt (h : IZ w b A n c z k) : z.natAbs < 4294967296 ^ k := by
  obtain ⟨l, h1, rfl, h3⟩ := h; exact WD.z_lt h1 h3
theorem QD.sz (h : QD w b A n c A' n' c' a k) (hk : 0 < k) : Sz a.q k := by
  have e1 := RD.q_num h.2.1.1 h.2.2.1.1
  have e2 := RD.q_den h.2.1.1 h.2.2.1.1
  have h1 := h.2.1.vlt h.2.2.2.1
  have h2 := h.2.2.1.vlt h.2.2.2.2
  have h3 : 1 < 4294967296 ^ k := Nat.one_lt_pow (by omega) (by omega)
  unfold Sz
  rw [e1, e2]
  refine ⟨?_, ?_⟩
  · unfold RD.n
    split
    · split <;> omega
    · simp; omega
  · unfold RD.d; split <;> omega
theorem QZ.sz (h : QZ w b A n c A' n' c' q k) (hk : 0 < k) : Sz q k := by
  obtain ⟨a, h1, rfl⟩ := h; exact h1.sz hk
theorem QV.mk_ (h1 : Wd w A n c (rd q).num) (h2 : Wd w A' n' c' (rd q).den) (hb : (rd q).neg = b) (hs : Sz q k) : QV w b A n c A' n' c' q k := by
  refine ⟨hb, h1, h2, ?_, ?_⟩
  · rw [h1.2.1]; exact length_digs_le hs.1
  · rw [h2.2.1]; unfold rd; simp only; split
    · simp
    · exact length_digs_le hs.2
theorem IV.mk_ (h : Wd w A n c (wh z).mag) (hb : b = (wh z).neg) (hs : z.natAbs < 4294967296 ^ k) : IV w b A n c z k :=
  ⟨hb, h, by rw [h.2.1]; exact length_digs_le hs⟩
end
def RetI (w : World) (z : Int) (k : Nat) (e : Ending) (w' : World) : Prop := ∃ b A n c, e = .returned (.agg #[.bool b, .slice A n c]) ∧ IV w' b A n c z k ∧ Below w.heap.size w w'
def RetF (w : World) (q : Rat) (k : Nat) (e : Ending) (w' : World) : Prop := ∃ b A n c A' n' c', e = .returned (.agg #[.bool b, .slice A n c, .slice A' n' c']) ∧ QV w' b A n c A' n' c' q k ∧ Below w.heap.size w w'
def RetII (w : World) (z z' : Int) (k : Nat) (e : Ending) (w' : World) : Prop := ∃ b A n c b' A' n' c', e = .returned (.tuple #[.agg #[.bool b, .slice A n c], .agg #[.bool b', .slice A' n' c']]) ∧ IV w' b A n c z k ∧ IV w' b' A' n' c' z' k ∧ Below w.heap.size w w'
def RetDv (w : World) (v : Value) (z z' : Int) (k : Nat) (e : Ending) (w' : World) : Prop := ∃ b A n c b' A' n' c', e = .returned (.tuple #[.agg #[.bool b, .slice A n c], .agg #[.bool b', .slice A' n' c'], v]) ∧ IV w' b A n c z k ∧ IV w' b' A' n' c' z' k ∧ Below w.heap.size w w'
def RetFe (w : World) (v : Value) (q : Rat) (k : Nat) (e : Ending) (w' : World) : Prop := ∃ b A n c A' n' c', e = .returned (.tuple #[.agg #[.bool b, .slice A n c, .slice A' n' c'], v]) ∧ QV w' b A n c A' n' c' q k ∧ Below w.heap.size w w'
theorem gcd_lt {a b K : Nat} (ha : a < K) (hb : b < K) : Nat.gcd a b < K := by
  rcases Nat.eq_zero_or_pos a with rfl | h
  · simpa using hb
  · exact Nat.lt_of_le_of_lt (Nat.gcd_le_left _ h) ha
theorem RetW.i {w w' : World} {z : Int} {k : Nat} {e : Ending} (h : RetW w (wh z) e w') (hs : z.natAbs < 4294967296 ^ k) : RetI w z k e w' := by
  obtain ⟨A, n, c, rfl, h1, h2⟩ := h
  exact ⟨_, A, n, c, rfl, IV.mk_ h1 rfl hs, h2⟩
section
variable (w : World) (b A n c z k) (h : IZ w b A n c z k) (b' A' n' c' z' k') (h' : IZ w b' A' n' c' z' k')
include h
theorem i_neg (hk : k ≤ 1000000000) : Calls Tryz.prog 84 #[.agg #[.bool b, .slice A n c]] w (RetI w (-z) k) := by
  have hz := h.lt
  obtain ⟨l, h1, rfl, h3⟩ := h
  exact (neg_C w b A n c l h1 (by omega)).mono fun _ _ r => r.i (by omega)
theorem i_sign (hk : k ≤ 1000000000) : Calls Tryz.prog 55 #[.agg #[.bool b, .slice A n c]] w (RetV w (.int .i64 z.sign)) := by
  obtain ⟨l, h1, rfl, h3⟩ := h
  exact sign_c w b A n c l h1 (by omega)
include h'
theorem i_add (hk : k + k' ≤ 1000000000) : Calls Tryz.prog 52 #[.agg #[.bool b, .slice A n c], .agg #[.bool b', .slice A' n' c']] w (RetI w (z + z') (k + k' + 1)) := by
  have hz := h.mono (Nat.le_add_right k k') |>.lt
  have hz' := h'.mono (Nat.le_add_left k' k) |>.lt
  obtain ⟨l, h1, rfl, h3⟩ := h
  obtain ⟨l', h1', rfl, h3'⟩ := h'
  exact (add_c w b A n c l h1 (by omega) b' A' n' c' l' h1' (by omega)).mono fun _ _ r => r.i (natAbs_add_lt hz hz')
theorem i_mul (hk : k + k' ≤ 1000000000) : Calls Tryz.prog 50 #[.agg #[.bool b, .slice A n c], .agg #[.bool b', .slice A' n' c']] w (RetI w (z * z') (k + k')) := by
  have hz := h.lt
  have hz' := h'.lt
  obtain ⟨l, h1, rfl, h3⟩ := h
  obtain ⟨l', h1', rfl, h3'⟩ := h'
  exact (mul_C w b A n c l h1 (by omega) b' A' n' c' l' h1' (by omega)).mono fun _ _ r => r.i (natAbs_mul_lt hz hz')
theorem i_cmp (hk : k + k' ≤ 1000000000) : Calls Tryz.prog 49 #[.agg #[.bool b, .slice A n c], .agg #[.bool b', .slice A' n' c']] w (RetV w (.int .i64 (cmpI z z'))) := by
  obtain ⟨l, h1, rfl, h3⟩ := h
  obtain ⟨l', h1', rfl, h3'⟩ := h'
  exact cmp_c w b A n c l h1 (by omega) b' A' n' c' l' h1' (by omega)
theorem i_gcd (hk : k + k' ≤ 1000000000) : Calls Tryz.prog 61 #[.agg #[.bool b, .slice A n c], .agg #[.bool b', .slice A' n' c']] w (RetI w (Nat.gcd z.natAbs z'.natAbs : Nat) (k + k')) := by
  have hz := h.mono (Nat.le_add_right k k') |>.lt
  have hz' := h'.mono (Nat.le_add_left k' k) |>.lt
  obtain ⟨l, h1, rfl, h3⟩ := h
  obtain ⟨l', h1', rfl, h3'⟩ := h'
  exact (gcd_c w b A n c l h1 (by omega) b' A' n' c' l' h1' (by omega)).mono fun _ _ r => r.i (by simpa using gcd_lt hz hz')
theorem i_div (hk : k + k' ≤ 1000000000) (h0 : z' ≠ 0) : Calls Tryz.prog 85 #[.agg #[.bool b, .slice A n c], .agg #[.bool b', .slice A' n' c']] w (RetDv w .nilIface (z / z') (z % z') (k + k')) := by
  have hz := h.mono (Nat.le_add_right k k') |>.lt
  have hz' := h'.mono (Nat.le_add_left k' k) |>.lt
  obtain ⟨l, h1, rfl, h3⟩ := h
  obtain ⟨l', h1', rfl, h3'⟩ := h'
  refine (div_C w b A n c l h1 (by omega) b' A' n' c' l' h1' (by omega) h0).mono fun _ _ r => ?_
  obtain ⟨A1, n1, c1, A2, n2, c2, rfl, r1, r2, r3⟩ := r
  refine ⟨_, A1, n1, c1, _, A2, n2, c2, rfl, IV.mk_ r1 rfl ?_, IV.mk_ r2 rfl ?_, r3⟩
  · exact Nat.lt_of_le_of_lt (Int.natAbs_ediv_le_natAbs _ _) hz
  · have e1 := Int.emod_nonneg (WD.z ⟨b, l⟩) h0
    have e2 := Int.emod_lt (WD.z ⟨b, l⟩) h0
    omega
end
theorem i_of (w : World) (i : Int) (k : Nat) (h0 : -9223372036854775808 ≤ i) (h1 : i < 9223372036854775808) (hs : i.natAbs < 4294967296 ^ k) : Calls Tryz.prog 53 #[.int .i64 i] w (RetI w i k) :=
  (of_c w i h0 h1).mono fun _ _ r => r.i hs
theorem i_of1 (w : World) (i : Int) (h0 : -4294967296 < i) (h1 : i < 4294967296) : Calls Tryz.prog 53 #[.int .i64 i] w (RetI w i 1) := i_of w i 1 (by omega) (by omega) (by omega)
theorem IZ.zero (w : World) : IZ w false none 0 0 0 0 := ⟨[], Wd.nil_ w, by simp [WD.z, WD.ok, val], Nat.le_refl _⟩
theorem QZ.zero (w : World) : QZ w false none 0 0 none 0 0 0 1 := ⟨⟨false, [], []⟩, ⟨rfl, Wd.nil_ w, Wd.nil_ w, by omega, by omega⟩, by have := rd_q 0; rw [rd_zero] at this; exact this⟩
theorem QV.zero (w : World) (k : Nat) : QV w false none 0 0 none 0 0 0 k := by
  unfold QV; rw [rd_zero]; exact ⟨rfl, Wd.nil_ w, Wd.nil_ w, by omega, by omega⟩
theorem IV.zero (w : World) (k : Nat) : IV w false none 0 0 0 k := ⟨rfl, by have : (wh 0).mag = [] := digs_zero; rw [this]; exact Wd.nil_ w, by omega⟩
theorem blkAt (w : World) (c : Array Value) (t : TypeId) {g : Nat} (h : g = w.heap.size) : Blk (w.alloc (.cells c t)) g t c := by subst h; exact Blk.new w t c
theorem Blk.set_at {w : World} {g : Nat} {t : TypeId} {cs : Array Value} (h : Blk w g t cs) (i : Nat) (v : Value) (cs' : Array Value) (e : cs.setIfInBounds i v = cs') : Blk (w.setCell ⟨g, i, none⟩ v) g t cs' := by subst e; exact h.set_ i v
theorem Blk.box {w : World} {g : Nat} {t : TypeId} {c : Array Value} (h : Blk w g t c) : Box w g t := ⟨c, _, h⟩
abbrev SeesX (G g : Nat) (W0 W : World) : Prop := ((∀ b o, b < G → b ≠ g → W.cell? ⟨b, o, none⟩ = W0.cell? ⟨b, o, none⟩) ∧ (∀ b o, b < G → W.frozen? ⟨b, o, none⟩ = W0.frozen? ⟨b, o, none⟩)) ∧ G ≤ W.heap.size
theorem SeesX.of {G g : Nat} {W0 W : World} (h : G ≤ W0.heap.size) (hb : Below W0.heap.size W0 W) : SeesX G g W0 W :=
  ⟨⟨fun b o hlt _ => (bcell hb).1 b o (Nat.lt_of_lt_of_le hlt h), fun b o hlt => (bcell hb).2 b o (Nat.lt_of_lt_of_le hlt h)⟩, Nat.le_trans h hb.size⟩
theorem SeesX.set {G g : Nat} {W0 W : World} (h : SeesX G g W0 W) {i : Nat} {u : Value} : SeesX G g W0 (W.setCell ⟨g, i, none⟩ u) := by
  refine ⟨⟨fun b o hlt hne => ?_, fun b o hlt => ?_⟩, ?_⟩
  · rw [← h.1.1 b o hlt hne]; unfold World.cell?; rw [Below.heap_setCell _ _ _ b hne]
  · rw [← h.1.2 b o hlt]; exact World.frozen?_setCell ..
  · have := h.2; simp [World.setCell]; exact this
end Go.Proofs.YtianjkiakkclgaaGreatDoor

/- Walks: fractions in lowest terms. -/
namespace Go.Proofs.YtianjkiakkclgaaGreatDoor
open Go Go.RowKit Bn
attribute [local go_sem ↓] Go.wp_at_zero Go.wp_at_succ
theorem int_q (i : Int) : Rat.divInt i 1 = (i : Rat) := by have := q_eq (i : Rat); simpa using this.symm
theorem sign3 (z : Int) : z = 0 ∨ z.sign = 1 ∨ z.sign = -1 := by
  rcases Int.lt_trichotomy z 0 with h | h | h
  · exact .inr (.inr (Int.sign_eq_neg_one_of_neg h))
  · exact .inl h
  · exact .inr (.inl (Int.sign_eq_one_of_pos h))
theorem sign_pos {z : Int} (h : z.sign = 1) : 0 < z := Int.sign_eq_one_iff_pos.1 h
theorem sign_neg_ {z : Int} (h : z.sign = -1) : 0 < -z := by have := Int.sign_eq_neg_one_iff_neg.1 h; omega
theorem sign_ne {z : Int} (h : z.sign = -1) : z ≠ 0 := by rintro rfl; cases h
theorem gcd_ne {a b : Int} (h : 0 < b) : ((Nat.gcd a.natAbs b.natAbs : Nat) : Int) ≠ 0 := by
  have : 0 < Nat.gcd a.natAbs b.natAbs := Nat.gcd_pos_of_pos_right _ (by omega)
  omega
theorem wh_div {a : Int} (g : Nat) (h : 0 < a) : (wh (a / (g : Int))).mag = digs (a.natAbs / g) := by
  have e : (a / (g : Int)) = ((a.natAbs / g : Nat) : Int) := by
    rw [Int.natCast_ediv, Int.natAbs_of_nonneg (by omega)]
  rw [e]; rfl
theorem form_pos {z d : Int} {q : Rat} (hz : z.sign = 1) (hd : 0 < d) (hq : Rat.divInt z d = q) :
    (rd q).num = (wh (z / ((Nat.gcd z.natAbs d.natAbs : Nat) : Int))).mag ∧ (rd q).den = (wh (d / ((Nat.gcd z.natAbs d.natAbs : Nat) : Int))).mag ∧ (rd q).neg = false := by
  have hp := sign_pos hz
  rw [← hq, rd_divInt (by omega) hd, wh_div _ hp, wh_div _ hd]
  exact ⟨rfl, rfl, by simp; omega⟩
theorem form_neg {z d : Int} {q : Rat} (hz : z.sign = -1) (hd : 0 < d) (hq : Rat.divInt z d = q) :
    (rd q).num = (wh (-z / ((Nat.gcd z.natAbs d.natAbs : Nat) : Int))).mag ∧ (rd q).den = (wh (d / ((Nat.gcd z.natAbs d.natAbs : Nat) : Int))).mag ∧ (rd q).neg = true := by
  have hp := sign_neg_ hz
  rw [← hq, rd_divInt (by omega) hd, wh_div _ hp, wh_div _ hd, Int.natAbs_neg]
  exact ⟨rfl, rfl, by simp; omega⟩
theorem i_sign_e (w : World) (b A n c z k) (h : IZ w b A n c z k) (s : Int) (hs : z.sign = s) (hk : k ≤ 1000000000) : Calls Tryz.prog 55 #[.agg #[.bool b, .slice A n c]] w (RetV w (.int .i64 s)) := by
  subst hs; exact i_sign w b A n c z k h hk
theorem f_form_0 (w : World) (b A n c z k) (h : IZ w b A n c z k) (b' A' n' c' z' k') (h' : IZ w b' A' n' c' z' k') (K : Nat) (hz : z = 0) (hk : k + k' ≤ 300000000) :
  Calls Tryz.prog 51 #[.agg #[.bool b, .slice A n c], .agg #[.bool b', .slice A' n' c']] w (RetF w 0 K) := by
 have HZ := Lib.hid (show z.sign = 0 by rw [hz]; rfl)
 clear hz
 go_enter Tryz.func51, Tryz.ntmps51
 go_wp2_with fail
 (with_reducible refine (i_sign_e _ b A n c (z) (k) ?_ (0) ?_ ?_).mono ?_); (exact (h.belw ((((Below.refl _ _).alloc (Nat.le_refl _) _).alloc (by simp) _).alloc (by simp <;> omega) _))); (exact HZ.out); (omega); rintro e w1 ⟨rfl, hb1⟩
 have q1 := hb1.q3
 replace h := h.belw q1
 replace h' := h'.belw q1
 have x1a : Blk w1 w.heap.size 77 #[.bool b, .slice A n c] := (((blkAt _ _ _ (by simp)).alloc _).alloc _).below hb1 (by simp <;> omega)
 have x1b := ((blkAt _ _ _ (g := w.heap.size + 1) (by simp)).alloc _).below hb1 (by simp <;> omega)
 have x1c := (blkAt _ _ _ (g := w.heap.size + 1 + 1) (by simp)).below hb1 (by simp)
 have bw1 := (brefl w).trans (q1.mono (brefl w).size)
 have lw1 := hb1.l3
 clear q1
 have cx1c := x1c.c3
 have fx1c := x1c.f3
 have lx1c := lts2 x1c.lt
 go_wp2_with fail
 refine bodyPost_ret (v := .agg #[.bool false, .slice none 0 0, .slice none 0 0]) (by simp [results, Tryz.results51, go_sem, *] <;> trivial) rfl ?_
 exact ⟨false, none, 0, 0, none, 0, 0, rfl, QV.zero _ _, (((bw1.sc (w.heap.size + 1 + 1) 0 (by omega) (.bool false)).sc (w.heap.size + 1 + 1) 1 (by omega) (.slice none 0 0)).sc (w.heap.size + 1 + 1) 2 (by omega) (.slice none 0 0))⟩
theorem f_form_pp (w : World) (b A n c z k) (h : IZ w b A n c z k) (b' A' n' c' z' k') (h' : IZ w b' A' n' c' z' k') (q : Rat) (K : Nat) (hz : z.sign = 1) (hd : z'.sign = 1) (hq : Rat.divInt z z' = q) (hs : Sz q K) (hk : k + k' ≤ 300000000) :
  Calls Tryz.prog 51 #[.agg #[.bool b, .slice A n c], .agg #[.bool b', .slice A' n' c']] w (RetF w q K) := by
 have HZ := Lib.hid hz
 have HD := Lib.hid hd
 have HN := Lib.hid (show (z).sign = 1 by exact hz)
 have HP := Lib.hid (show 0 < z' by exact sign_pos hd)
 have HG := Lib.hid (show ((Nat.gcd (z).natAbs (z').natAbs : Nat) : Int) ≠ 0 from gcd_ne HP.out)
 have HQ := Lib.hid (show Rat.divInt z z' = q by exact hq)
 have HS := Lib.hid hs
 clear hz hd hq hs
 go_enter Tryz.func51, Tryz.ntmps51
 go_wp2_with fail
 (with_reducible refine (i_sign_e _ b A n c (z) (k) ?_ (1) ?_ ?_).mono ?_); (exact (h.belw ((((Below.refl _ _).alloc (Nat.le_refl _) _).alloc (by simp) _).alloc (by simp <;> omega) _))); (exact HZ.out); (omega); rintro e w1 ⟨rfl, hb1⟩
 have q1 := hb1.q3
 replace h := h.belw q1
 replace h' := h'.belw q1
 have x1a : Blk w1 w.heap.size 77 #[.bool b, .slice A n c] := (((blkAt _ _ _ (by simp)).alloc _).alloc _).below hb1 (by simp <;> omega)
 have x1b := ((blkAt _ _ _ (g := w.heap.size + 1) (by simp)).alloc _).below hb1 (by simp <;> omega)
 have x1c := (blkAt _ _ _ (g := w.heap.size + 1 + 1) (by simp)).below hb1 (by simp)
 have bw1 := (brefl w).trans (q1.mono (brefl w).size)
 have lw1 := hb1.l3
 clear q1
 obtain ⟨cx1ba, cx1bb⟩ := x1b.c2
 obtain ⟨lx1ba, lx1bb, lx1bc, lx1bd⟩ := lts1 x1b.lt
 go_wp2_with fail
 (with_reducible refine (i_sign_e _ b' A' n' c' (z') (k') ?_ (1) ?_ ?_).mono ?_); (exact h'); (exact HD.out); (omega); rintro e w2 ⟨rfl, q2⟩
 clear cx1ba cx1bb lx1ba lx1bb lx1bc lx1bd
 replace h := h.belw q2
 replace h' := h'.belw q2
 replace x1a := x1a.b q2
 replace x1b := x1b.b q2
 replace x1c := x1c.b q2
 have bw2 := bw1.trans (q2.mono bw1.size)
 have lw2 := q2.size
 clear q2 bw1
 obtain ⟨cx1aa, cx1ab⟩ := x1a.c2
 obtain ⟨lx1aa, lx1ab, lx1ac, lx1ad⟩ := lts0 x1a.lt
 obtain ⟨cx1ba, cx1bb⟩ := x1b.c2
 obtain ⟨lx1ba, lx1bb, lx1bc, lx1bd⟩ := lts1 x1b.lt
 go_wp2_with fail
 (with_reducible refine (i_gcd _ b A n c (z) (k) ?_ b' A' n' c' (z') (k') ?_ ?_).mono ?_); (exact h); (exact h'); (omega); rintro e w3 ⟨b3, A3, n3, c3, rfl, h3, q3⟩
 clear cx1aa cx1ab lx1aa lx1ab lx1ac lx1ad cx1ba cx1bb lx1ba lx1bb lx1bc lx1bd
 replace h := h.belw q3
 replace h' := h'.belw q3
 replace x1a := x1a.b q3
 replace x1b := x1b.b q3
 replace x1c := x1c.b q3
 have bw3 := bw2.trans (q3.mono bw2.size)
 have lw3 := q3.size
 clear q3 bw2
 obtain ⟨cx1aa, cx1ab⟩ := x1a.c2
 obtain ⟨lx1aa, lx1ab, lx1ac, lx1ad⟩ := lts0 x1a.lt
 go_wp2_with fail
 (with_reducible refine (i_sign_e _ b A n c (z) (k) ?_ (1) ?_ ?_).mono ?_); (exact (h.belw ((Below.refl _ _).alloc (Nat.le_refl _) _))); (exact HN.out); (omega); rintro e w4 ⟨rfl, hb4⟩
 clear cx1aa cx1ab lx1aa lx1ab lx1ac lx1ad
 have q4 := hb4.q1
 replace h := h.belw q4
 replace h' := h'.belw q4
 replace h3 := h3.belw q4
 replace x1a := x1a.b q4
 replace x1b := x1b.b q4
 replace x1c := x1c.b q4
 have x4a : Blk w4 w3.heap.size 77 #[.bool b3, .slice A3 n3 c3] := (blkAt _ _ _ (by simp)).below hb4 (by simp)
 have bw4 := bw3.trans (q4.mono bw3.size)
 have lw4 := hb4.l1
 clear q4 bw3
 obtain ⟨cx1aa, cx1ab⟩ := x1a.c2
 obtain ⟨lx1aa, lx1ab, lx1ac, lx1ad⟩ := lts0 x1a.lt
 obtain ⟨cx4aa, cx4ab⟩ := x4a.c2
 obtain ⟨lx4aa, lx4ab, lx4ac, lx4ad⟩ := lts0 x4a.lt
 go_wp2_with fail
 (with_reducible refine (i_div _ b A n c (z) (k) ?_ b3 A3 n3 c3 ((Nat.gcd ((z)).natAbs ((z')).natAbs : Nat)) ((k) + (k')) ?_  ?_ ?_).mono ?_); (exact h); (exact h3.iz); (omega); (exact HG.out); rintro e w5 ⟨b5, A5, n5, c5, b'5, A'5, n'5, c'5, rfl, h5, h'5, q5⟩
 clear cx1aa cx1ab lx1aa lx1ab lx1ac lx1ad cx4aa cx4ab lx4aa lx4ab lx4ac lx4ad
 replace h := h.belw q5
 replace h' := h'.belw q5
 replace h3 := h3.belw q5
 replace x1a := x1a.b q5
 replace x1b := x1b.b q5
 replace x1c := x1c.b q5
 replace x4a := x4a.b q5
 have bw5 := bw4.trans (q5.mono bw4.size)
 have lw5 := q5.size
 clear q5 bw4
 obtain ⟨cx1aa, cx1ab⟩ := x1a.c2
 have fx1a := x1a.f2
 obtain ⟨lx1aa, lx1ab, lx1ac, lx1ad⟩ := lts0 x1a.lt
 obtain ⟨cx1ba, cx1bb⟩ := x1b.c2
 obtain ⟨lx1ba, lx1bb, lx1bc, lx1bd⟩ := lts1 x1b.lt
 obtain ⟨cx4aa, cx4ab⟩ := x4a.c2
 obtain ⟨lx4aa, lx4ab, lx4ac, lx4ad⟩ := lts0 x4a.lt
 go_wp2_with fail
 clear cx1aa fx1a cx1ab lx1aa lx1ab lx1ac lx1ad cx1ba cx1bb lx1ba lx1bb lx1bc lx1bd cx4aa cx4ab lx4aa lx4ab lx4ac lx4ad
 have p6 := (((Kp.refl w5).sb w.heap.size 0 x1a.box (by decide) (.bool b5)).sb w.heap.size 1 (x1a.box.set ⟨w.heap.size, 0, none⟩ (.bool b5)) (by decide) (.slice A5 n5 c5))
 have bw6 := ((bw5.sc w.heap.size 0 (by omega) (.bool b5)).sc w.heap.size 1 (by omega) (.slice A5 n5 c5))
 replace x1a := ((x1a.set_at 0 (.bool b5) #[.bool b5, .slice A n c] (by simp)).set_at 1 (.slice A5 n5 c5) #[.bool b5, .slice A5 n5 c5] (by simp))
 replace x1b := ((x1b.fr w.heap.size 0 (by omega) (.bool b5)).fr w.heap.size 1 (by omega) (.slice A5 n5 c5))
 replace x1c := ((x1c.fr w.heap.size 0 (by omega) (.bool b5)).fr w.heap.size 1 (by omega) (.slice A5 n5 c5))
 replace x4a := ((x4a.fr w.heap.size 0 (by omega) (.bool b5)).fr w.heap.size 1 (by omega) (.slice A5 n5 c5))
 have lw6 : w5.heap.size + 0 ≤ ((w5.setCell ⟨w.heap.size, 0, none⟩ (.bool b5)).setCell ⟨w.heap.size, 1, none⟩ (.slice A5 n5 c5)).heap.size := by simp
 generalize hE6 : ((w5.setCell ⟨w.heap.size, 0, none⟩ (.bool b5)).setCell ⟨w.heap.size, 1, none⟩ (.slice A5 n5 c5)) = w6 at p6 bw6 lw6 x1a x1b x1c x4a ⊢
 clear hE6
 replace h := h.keep p6
 replace h' := h'.keep p6
 replace h3 := h3.keep p6
 replace h5 := h5.keep p6
 replace h'5 := h'5.keep p6
 clear bw5
 (with_reducible refine (i_div _ b' A' n' c' (z') (k') ?_ b3 A3 n3 c3 ((Nat.gcd ((z)).natAbs ((z')).natAbs : Nat)) ((k) + (k')) ?_  ?_ ?_).mono ?_); (exact h'); (exact h3.iz); (omega); (exact HG.out); rintro e w7 ⟨b7, A7, n7, c7, b'7, A'7, n'7, c'7, rfl, h7, h'7, q7⟩
 replace h := h.belw q7
 replace h' := h'.belw q7
 replace h3 := h3.belw q7
 replace h5 := h5.belw q7
 replace h'5 := h'5.belw q7
 replace x1a := x1a.b q7
 replace x1b := x1b.b q7
 replace x1c := x1c.b q7
 replace x4a := x4a.b q7
 have bw7 := bw6.trans (q7.mono bw6.size)
 have lw7 := q7.size
 clear q7 bw6
 obtain ⟨cx1aa, cx1ab⟩ := x1a.c2
 obtain ⟨lx1aa, lx1ab, lx1ac, lx1ad⟩ := lts0 x1a.lt
 obtain ⟨cx1ba, cx1bb⟩ := x1b.c2
 have fx1b := x1b.f2
 obtain ⟨lx1ba, lx1bb, lx1bc, lx1bd⟩ := lts1 x1b.lt
 have cx1c := x1c.c3
 have fx1c := x1c.f3
 have lx1c := lts2 x1c.lt
 go_wp2_with fail
 refine bodyPost_ret (v := .agg #[.bool false, .slice A5 n5 c5, .slice A7 n7 c7]) (by simp [results, Tryz.results51, go_sem, *] <;> trivial) rfl ?_
 obtain ⟨e1, e2, e3⟩ := form_pos HN.out HP.out HQ.out
 exact ⟨_, _, _, _, _, _, _, rfl, QV.mk_ (by rw [e1]; exact h5.2.1.keep ((((((Kp.refl w7).sb (w.heap.size + 1) 0 x1b.box (by decide) (.bool b7)).sb (w.heap.size + 1) 1 (x1b.box.set ⟨w.heap.size + 1, 0, none⟩ (.bool b7)) (by decide) (.slice A7 n7 c7)).sb (w.heap.size + 1 + 1) 0 ((x1c.box.set ⟨w.heap.size + 1, 0, none⟩ (.bool b7)).set ⟨w.heap.size + 1, 1, none⟩ (.slice A7 n7 c7)) (by decide) (.bool false)).sb (w.heap.size + 1 + 1) 1 (((x1c.box.set ⟨w.heap.size + 1, 0, none⟩ (.bool b7)).set ⟨w.heap.size + 1, 1, none⟩ (.slice A7 n7 c7)).set ⟨w.heap.size + 1 + 1, 0, none⟩ (.bool false)) (by decide) (.slice A5 n5 c5)).sb (w.heap.size + 1 + 1) 2 ((((x1c.box.set ⟨w.heap.size + 1, 0, none⟩ (.bool b7)).set ⟨w.heap.size + 1, 1, none⟩ (.slice A7 n7 c7)).set ⟨w.heap.size + 1 + 1, 0, none⟩ (.bool false)).set ⟨w.heap.size + 1 + 1, 1, none⟩ (.slice A5 n5 c5)) (by decide) (.slice A7 n7 c7))) (by rw [e2]; exact h7.2.1.keep ((((((Kp.refl w7).sb (w.heap.size + 1) 0 x1b.box (by decide) (.bool b7)).sb (w.heap.size + 1) 1 (x1b.box.set ⟨w.heap.size + 1, 0, none⟩ (.bool b7)) (by decide) (.slice A7 n7 c7)).sb (w.heap.size + 1 + 1) 0 ((x1c.box.set ⟨w.heap.size + 1, 0, none⟩ (.bool b7)).set ⟨w.heap.size + 1, 1, none⟩ (.slice A7 n7 c7)) (by decide) (.bool false)).sb (w.heap.size + 1 + 1) 1 (((x1c.box.set ⟨w.heap.size + 1, 0, none⟩ (.bool b7)).set ⟨w.heap.size + 1, 1, none⟩ (.slice A7 n7 c7)).set ⟨w.heap.size + 1 + 1, 0, none⟩ (.bool false)) (by decide) (.slice A5 n5 c5)).sb (w.heap.size + 1 + 1) 2 ((((x1c.box.set ⟨w.heap.size + 1, 0, none⟩ (.bool b7)).set ⟨w.heap.size + 1, 1, none⟩ (.slice A7 n7 c7)).set ⟨w.heap.size + 1 + 1, 0, none⟩ (.bool false)).set ⟨w.heap.size + 1 + 1, 1, none⟩ (.slice A5 n5 c5)) (by decide) (.slice A7 n7 c7))) e3 HS.out, (((((bw7.sc (w.heap.size + 1) 0 (by omega) (.bool b7)).sc (w.heap.size + 1) 1 (by omega) (.slice A7 n7 c7)).sc (w.heap.size + 1 + 1) 0 (by omega) (.bool false)).sc (w.heap.size + 1 + 1) 1 (by omega) (.slice A5 n5 c5)).sc (w.heap.size + 1 + 1) 2 (by omega) (.slice A7 n7 c7))⟩
theorem f_form_pn (w : World) (b A n c z k) (h : IZ w b A n c z k) (b' A' n' c' z' k') (h' : IZ w b' A' n' c' z' k') (q : Rat) (K : Nat) (hz : z.sign = -1) (hd : z'.sign = 1) (hq : Rat.divInt z z' = q) (hs : Sz q K) (hk : k + k' ≤ 300000000) :
  Calls Tryz.prog 51 #[.agg #[.bool b, .slice A n c], .agg #[.bool b', .slice A' n' c']] w (RetF w q K) := by
 have HZ := Lib.hid hz
 have HD := Lib.hid hd
 have HN := Lib.hid (show (z).sign = -1 by exact hz)
 have HP := Lib.hid (show 0 < z' by exact sign_pos hd)
 have HG := Lib.hid (show ((Nat.gcd (z).natAbs (z').natAbs : Nat) : Int) ≠ 0 from gcd_ne HP.out)
 have HQ := Lib.hid (show Rat.divInt z z' = q by exact hq)
 have HS := Lib.hid hs
 clear hz hd hq hs
 go_enter Tryz.func51, Tryz.ntmps51
 go_wp2_with fail
 (with_reducible refine (i_sign_e _ b A n c (z) (k) ?_ (-1) ?_ ?_).mono ?_); (exact (h.belw ((((Below.refl _ _).alloc (Nat.le_refl _) _).alloc (by simp) _).alloc (by simp <;> omega) _))); (exact HZ.out); (omega); rintro e w1 ⟨rfl, hb1⟩
 have q1 := hb1.q3
 replace h := h.belw q1
 replace h' := h'.belw q1
 have x1a : Blk w1 w.heap.size 77 #[.bool b, .slice A n c] := (((blkAt _ _ _ (by simp)).alloc _).alloc _).below hb1 (by simp <;> omega)
 have x1b := ((blkAt _ _ _ (g := w.heap.size + 1) (by simp)).alloc _).below hb1 (by simp <;> omega)
 have x1c := (blkAt _ _ _ (g := w.heap.size + 1 + 1) (by simp)).below hb1 (by simp)
 have bw1 := (brefl w).trans (q1.mono (brefl w).size)
 have lw1 := hb1.l3
 clear q1
 obtain ⟨cx1ba, cx1bb⟩ := x1b.c2
 obtain ⟨lx1ba, lx1bb, lx1bc, lx1bd⟩ := lts1 x1b.lt
 go_wp2_with fail
 (with_reducible refine (i_sign_e _ b' A' n' c' (z') (k') ?_ (1) ?_ ?_).mono ?_); (exact h'); (exact HD.out); (omega); rintro e w2 ⟨rfl, q2⟩
 clear cx1ba cx1bb lx1ba lx1bb lx1bc lx1bd
 replace h := h.belw q2
 replace h' := h'.belw q2
 replace x1a := x1a.b q2
 replace x1b := x1b.b q2
 replace x1c := x1c.b q2
 have bw2 := bw1.trans (q2.mono bw1.size)
 have lw2 := q2.size
 clear q2 bw1
 obtain ⟨cx1aa, cx1ab⟩ := x1a.c2
 obtain ⟨lx1aa, lx1ab, lx1ac, lx1ad⟩ := lts0 x1a.lt
 obtain ⟨cx1ba, cx1bb⟩ := x1b.c2
 obtain ⟨lx1ba, lx1bb, lx1bc, lx1bd⟩ := lts1 x1b.lt
 go_wp2_with fail
 (with_reducible refine (i_gcd _ b A n c (z) (k) ?_ b' A' n' c' (z') (k') ?_ ?_).mono ?_); (exact h); (exact h'); (omega); rintro e w3 ⟨b3, A3, n3, c3, rfl, h3, q3⟩
 clear cx1aa cx1ab lx1aa lx1ab lx1ac lx1ad cx1ba cx1bb lx1ba lx1bb lx1bc lx1bd
 replace h := h.belw q3
 replace h' := h'.belw q3
 replace x1a := x1a.b q3
 replace x1b := x1b.b q3
 replace x1c := x1c.b q3
 have bw3 := bw2.trans (q3.mono bw2.size)
 have lw3 := q3.size
 clear q3 bw2
 obtain ⟨cx1aa, cx1ab⟩ := x1a.c2
 obtain ⟨lx1aa, lx1ab, lx1ac, lx1ad⟩ := lts0 x1a.lt
 go_wp2_with fail
 (with_reducible refine (i_sign_e _ b A n c (z) (k) ?_ (-1) ?_ ?_).mono ?_); (exact (h.belw ((Below.refl _ _).alloc (Nat.le_refl _) _))); (exact HN.out); (omega); rintro e w4 ⟨rfl, hb4⟩
 clear cx1aa cx1ab lx1aa lx1ab lx1ac lx1ad
 have q4 := hb4.q1
 replace h := h.belw q4
 replace h' := h'.belw q4
 replace h3 := h3.belw q4
 replace x1a := x1a.b q4
 replace x1b := x1b.b q4
 replace x1c := x1c.b q4
 have x4a : Blk w4 w3.heap.size 77 #[.bool b3, .slice A3 n3 c3] := (blkAt _ _ _ (by simp)).below hb4 (by simp)
 have bw4 := bw3.trans (q4.mono bw3.size)
 have lw4 := hb4.l1
 clear q4 bw3
 obtain ⟨cx1aa, cx1ab⟩ := x1a.c2
 obtain ⟨lx1aa, lx1ab, lx1ac, lx1ad⟩ := lts0 x1a.lt
 go_wp2_with fail
 (with_reducible refine (i_neg _ b A n c (z) (k) ?_ ?_).mono ?_); (exact h); (omega); rintro e w5 ⟨b5, A5, n5, c5, rfl, h5, q5⟩
 clear cx1aa cx1ab lx1aa lx1ab lx1ac lx1ad
 replace h := h.belw q5
 replace h' := h'.belw q5
 replace h3 := h3.belw q5
 replace x1a := x1a.b q5
 replace x1b := x1b.b q5
 replace x1c := x1c.b q5
 replace x4a := x4a.b q5
 have bw5 := bw4.trans (q5.mono bw4.size)
 have lw5 := q5.size
 clear q5 bw4
 obtain ⟨cx1aa, cx1ab⟩ := x1a.c2
 obtain ⟨fx1aa, fx1ab⟩ := x1a.f2
 obtain ⟨lx1aa, lx1ab, lx1ac, lx1ad⟩ := lts0 x1a.lt
 obtain ⟨cx4aa, cx4ab⟩ := x4a.c2
 obtain ⟨lx4aa, lx4ab, lx4ac, lx4ad⟩ := lts0 x4a.lt
 go_wp2_with fail
 clear cx1aa fx1aa cx1ab fx1ab lx1aa lx1ab lx1ac lx1ad cx4aa cx4ab lx4aa lx4ab lx4ac lx4ad
 have p6 := (((Kp.refl w5).sb w.heap.size 0 x1a.box (by decide) (.bool b5)).sb w.heap.size 1 (x1a.box.set ⟨w.heap.size, 0, none⟩ (.bool b5)) (by decide) (.slice A5 n5 c5))
 have bw6 := ((bw5.sc w.heap.size 0 (by omega) (.bool b5)).sc w.heap.size 1 (by omega) (.slice A5 n5 c5))
 replace x1a := ((x1a.set_at 0 (.bool b5) #[.bool b5, .slice A n c] (by simp)).set_at 1 (.slice A5 n5 c5) #[.bool b5, .slice A5 n5 c5] (by simp))
 replace x1b := ((x1b.fr w.heap.size 0 (by omega) (.bool b5)).fr w.heap.size 1 (by omega) (.slice A5 n5 c5))
 replace x1c := ((x1c.fr w.heap.size 0 (by omega) (.bool b5)).fr w.heap.size 1 (by omega) (.slice A5 n5 c5))
 replace x4a := ((x4a.fr w.heap.size 0 (by omega) (.bool b5)).fr w.heap.size 1 (by omega) (.slice A5 n5 c5))
 have lw6 : w5.heap.size + 0 ≤ ((w5.setCell ⟨w.heap.size, 0, none⟩ (.bool b5)).setCell ⟨w.heap.size, 1, none⟩ (.slice A5 n5 c5)).heap.size := by simp
 generalize hE6 : ((w5.setCell ⟨w.heap.size, 0, none⟩ (.bool b5)).setCell ⟨w.heap.size, 1, none⟩ (.slice A5 n5 c5)) = w6 at p6 bw6 lw6 x1a x1b x1c x4a ⊢
 clear hE6
 replace h := h.keep p6
 replace h' := h'.keep p6
 replace h3 := h3.keep p6
 replace h5 := h5.keep p6
 clear bw5
 (with_reducible refine (i_div _ b5 A5 n5 c5 (-(z)) ((k)) ?_ b3 A3 n3 c3 ((Nat.gcd ((z)).natAbs ((z')).natAbs : Nat)) ((k) + (k')) ?_  ?_ ?_).mono ?_); (exact h5.iz); (exact h3.iz); (omega); (exact HG.out); rintro e w7 ⟨b7, A7, n7, c7, b'7, A'7, n'7, c'7, rfl, h7, h'7, q7⟩
 replace h := h.belw q7
 replace h' := h'.belw q7
 replace h3 := h3.belw q7
 replace h5 := h5.belw q7
 replace x1a := x1a.b q7
 replace x1b := x1b.b q7
 replace x1c := x1c.b q7
 replace x4a := x4a.b q7
 have bw7 := bw6.trans (q7.mono bw6.size)
 have lw7 := q7.size
 clear q7 bw6
 obtain ⟨cx1aa, cx1ab⟩ := x1a.c2
 obtain ⟨fx1aa, fx1ab⟩ := x1a.f2
 obtain ⟨lx1aa, lx1ab, lx1ac, lx1ad⟩ := lts0 x1a.lt
 obtain ⟨cx1ba, cx1bb⟩ := x1b.c2
 obtain ⟨lx1ba, lx1bb, lx1bc, lx1bd⟩ := lts1 x1b.lt
 obtain ⟨cx4aa, cx4ab⟩ := x4a.c2
 obtain ⟨lx4aa, lx4ab, lx4ac, lx4ad⟩ := lts0 x4a.lt
 go_wp2_with fail
 clear cx1aa fx1aa cx1ab fx1ab lx1aa lx1ab lx1ac lx1ad cx1ba cx1bb lx1ba lx1bb lx1bc lx1bd cx4aa cx4ab lx4aa lx4ab lx4ac lx4ad
 have p8 := (((Kp.refl w7).sb w.heap.size 0 x1a.box (by decide) (.bool b7)).sb w.heap.size 1 (x1a.box.set ⟨w.heap.size, 0, none⟩ (.bool b7)) (by decide) (.slice A7 n7 c7))
 have bw8 := ((bw7.sc w.heap.size 0 (by omega) (.bool b7)).sc w.heap.size 1 (by omega) (.slice A7 n7 c7))
 replace x1a := ((x1a.set_at 0 (.bool b7) #[.bool b7, .slice A5 n5 c5] (by simp)).set_at 1 (.slice A7 n7 c7) #[.bool b7, .slice A7 n7 c7] (by simp))
 replace x1b := ((x1b.fr w.heap.size 0 (by omega) (.bool b7)).fr w.heap.size 1 (by omega) (.slice A7 n7 c7))
 replace x1c := ((x1c.fr w.heap.size 0 (by omega) (.bool b7)).fr w.heap.size 1 (by omega) (.slice A7 n7 c7))
 replace x4a := ((x4a.fr w.heap.size 0 (by omega) (.bool b7)).fr w.heap.size 1 (by omega) (.slice A7 n7 c7))
 have lw8 : w7.heap.size + 0 ≤ ((w7.setCell ⟨w.heap.size, 0, none⟩ (.bool b7)).setCell ⟨w.heap.size, 1, none⟩ (.slice A7 n7 c7)).heap.size := by simp
 generalize hE8 : ((w7.setCell ⟨w.heap.size, 0, none⟩ (.bool b7)).setCell ⟨w.heap.size, 1, none⟩ (.slice A7 n7 c7)) = w8 at p8 bw8 lw8 x1a x1b x1c x4a ⊢
 clear hE8
 replace h := h.keep p8
 replace h' := h'.keep p8
 replace h3 := h3.keep p8
 replace h5 := h5.keep p8
 replace h7 := h7.keep p8
 replace h'7 := h'7.keep p8
 clear bw7
 (with_reducible refine (i_div _ b' A' n' c' (z') (k') ?_ b3 A3 n3 c3 ((Nat.gcd ((z)).natAbs ((z')).natAbs : Nat)) ((k) + (k')) ?_  ?_ ?_).mono ?_); (exact h'); (exact h3.iz); (omega); (exact HG.out); rintro e w9 ⟨b9, A9, n9, c9, b'9, A'9, n'9, c'9, rfl, h9, h'9, q9⟩
 replace h := h.belw q9
 replace h' := h'.belw q9
 replace h3 := h3.belw q9
 replace h5 := h5.belw q9
 replace h7 := h7.belw q9
 replace h'7 := h'7.belw q9
 replace x1a := x1a.b q9
 replace x1b := x1b.b q9
 replace x1c := x1c.b q9
 replace x4a := x4a.b q9
 have bw9 := bw8.trans (q9.mono bw8.size)
 have lw9 := q9.size
 clear q9 bw8
 obtain ⟨cx1aa, cx1ab⟩ := x1a.c2
 obtain ⟨lx1aa, lx1ab, lx1ac, lx1ad⟩ := lts0 x1a.lt
 obtain ⟨cx1ba, cx1bb⟩ := x1b.c2
 have fx1b := x1b.f2
 obtain ⟨lx1ba, lx1bb, lx1bc, lx1bd⟩ := lts1 x1b.lt
 have cx1c := x1c.c3
 have fx1c := x1c.f3
 have lx1c := lts2 x1c.lt
 go_wp2_with fail
 refine bodyPost_ret (v := .agg #[.bool true, .slice A7 n7 c7, .slice A9 n9 c9]) (by simp [results, Tryz.results51, go_sem, *] <;> trivial) rfl ?_
 obtain ⟨e1, e2, e3⟩ := form_neg HN.out HP.out HQ.out
 exact ⟨_, _, _, _, _, _, _, rfl, QV.mk_ (by rw [e1]; exact h7.2.1.keep ((((((Kp.refl w9).sb (w.heap.size + 1) 0 x1b.box (by decide) (.bool b9)).sb (w.heap.size + 1) 1 (x1b.box.set ⟨w.heap.size + 1, 0, none⟩ (.bool b9)) (by decide) (.slice A9 n9 c9)).sb (w.heap.size + 1 + 1) 0 ((x1c.box.set ⟨w.heap.size + 1, 0, none⟩ (.bool b9)).set ⟨w.heap.size + 1, 1, none⟩ (.slice A9 n9 c9)) (by decide) (.bool true)).sb (w.heap.size + 1 + 1) 1 (((x1c.box.set ⟨w.heap.size + 1, 0, none⟩ (.bool b9)).set ⟨w.heap.size + 1, 1, none⟩ (.slice A9 n9 c9)).set ⟨w.heap.size + 1 + 1, 0, none⟩ (.bool true)) (by decide) (.slice A7 n7 c7)).sb (w.heap.size + 1 + 1) 2 ((((x1c.box.set ⟨w.heap.size + 1, 0, none⟩ (.bool b9)).set ⟨w.heap.size + 1, 1, none⟩ (.slice A9 n9 c9)).set ⟨w.heap.size + 1 + 1, 0, none⟩ (.bool true)).set ⟨w.heap.size + 1 + 1, 1, none⟩ (.slice A7 n7 c7)) (by decide) (.slice A9 n9 c9))) (by rw [e2]; exact h9.2.1.keep ((((((Kp.refl w9).sb (w.heap.size + 1) 0 x1b.box (by decide) (.bool b9)).sb (w.heap.size + 1) 1 (x1b.box.set ⟨w.heap.size + 1, 0, none⟩ (.bool b9)) (by decide) (.slice A9 n9 c9)).sb (w.heap.size + 1 + 1) 0 ((x1c.box.set ⟨w.heap.size + 1, 0, none⟩ (.bool b9)).set ⟨w.heap.size + 1, 1, none⟩ (.slice A9 n9 c9)) (by decide) (.bool true)).sb (w.heap.size + 1 + 1) 1 (((x1c.box.set ⟨w.heap.size + 1, 0, none⟩ (.bool b9)).set ⟨w.heap.size + 1, 1, none⟩ (.slice A9 n9 c9)).set ⟨w.heap.size + 1 + 1, 0, none⟩ (.bool true)) (by decide) (.slice A7 n7 c7)).sb (w.heap.size + 1 + 1) 2 ((((x1c.box.set ⟨w.heap.size + 1, 0, none⟩ (.bool b9)).set ⟨w.heap.size + 1, 1, none⟩ (.slice A9 n9 c9)).set ⟨w.heap.size + 1 + 1, 0, none⟩ (.bool true)).set ⟨w.heap.size + 1 + 1, 1, none⟩ (.slice A7 n7 c7)) (by decide) (.slice A9 n9 c9))) e3 HS.out, (((((bw9.sc (w.heap.size + 1) 0 (by omega) (.bool b9)).sc (w.heap.size + 1) 1 (by omega) (.slice A9 n9 c9)).sc (w.heap.size + 1 + 1) 0 (by omega) (.bool true)).sc (w.heap.size + 1 + 1) 1 (by omega) (.slice A7 n7 c7)).sc (w.heap.size + 1 + 1) 2 (by omega) (.slice A9 n9 c9))⟩
theorem f_form_np (w : World) (b A n c z k) (h : IZ w b A n c z k) (b' A' n' c' z' k') (h' : IZ w b' A' n' c' z' k') (q : Rat) (K : Nat) (hz : z.sign = 1) (hd : z'.sign = -1) (hq : Rat.divInt z z' = q) (hs : Sz q K) (hk : k + k' ≤ 300000000) :
  Calls Tryz.prog 51 #[.agg #[.bool b, .slice A n c], .agg #[.bool b', .slice A' n' c']] w (RetF w q K) := by
 have HZ := Lib.hid hz
 have HD := Lib.hid hd
 have HN := Lib.hid (show ((-z)).sign = -1 by rw [Int.sign_neg, hz] <;> rfl)
 have HP := Lib.hid (show 0 < (-z') by exact sign_neg_ hd)
 have HG := Lib.hid (show ((Nat.gcd ((-z)).natAbs ((-z')).natAbs : Nat) : Int) ≠ 0 from gcd_ne HP.out)
 have HQ := Lib.hid (show Rat.divInt (-z) (-z') = q by rw [divInt_neg_neg _ _ (sign_ne hd)]; exact hq)
 have HS := Lib.hid hs
 clear hz hd hq hs
 go_enter Tryz.func51, Tryz.ntmps51
 go_wp2_with fail
 (with_reducible refine (i_sign_e _ b A n c (z) (k) ?_ (1) ?_ ?_).mono ?_); (exact (h.belw ((((Below.refl _ _).alloc (Nat.le_refl _) _).alloc (by simp) _).alloc (by simp <;> omega) _))); (exact HZ.out); (omega); rintro e w1 ⟨rfl, hb1⟩
 have q1 := hb1.q3
 replace h := h.belw q1
 replace h' := h'.belw q1
 have x1a : Blk w1 w.heap.size 77 #[.bool b, .slice A n c] := (((blkAt _ _ _ (by simp)).alloc _).alloc _).below hb1 (by simp <;> omega)
 have x1b := ((blkAt _ _ _ (g := w.heap.size + 1) (by simp)).alloc _).below hb1 (by simp <;> omega)
 have x1c := (blkAt _ _ _ (g := w.heap.size + 1 + 1) (by simp)).below hb1 (by simp)
 have bw1 := (brefl w).trans (q1.mono (brefl w).size)
 have lw1 := hb1.l3
 clear q1
 obtain ⟨cx1ba, cx1bb⟩ := x1b.c2
 have lx1b := lts1 x1b.lt
 go_wp2_with fail
 (with_reducible refine (i_sign_e _ b' A' n' c' (z') (k') ?_ (-1) ?_ ?_).mono ?_); (exact h'); (exact HD.out); (omega); rintro e w2 ⟨rfl, q2⟩
 clear cx1ba cx1bb lx1b
 replace h := h.belw q2
 replace h' := h'.belw q2
 replace x1a := x1a.b q2
 replace x1b := x1b.b q2
 replace x1c := x1c.b q2
 have bw2 := bw1.trans (q2.mono bw1.size)
 have lw2 := q2.size
 clear q2 bw1
 go_wp2_with fail
 have cx1a := x1a.c2
 obtain ⟨cx1ba, cx1bb⟩ := x1b.c2
 go_cut [2] (fun s2 wx => s2 = .pointer (some ⟨w.heap.size, 0, none⟩) ∧ ∃ b8 A8 n8 c8 b9 A9 n9 c9, Blk wx w.heap.size 77 #[.bool b8, .slice A8 n8 c8] ∧ Blk wx (w.heap.size + 1) 77 #[.bool b9, .slice A9 n9 c9] ∧ Blk wx (w.heap.size + 1 + 1) 24 #[.bool false, .slice none 0 0, .slice none 0 0] ∧ IV wx b8 A8 n8 c8 (-z) k ∧ IV wx b9 A9 n9 c9 (-z') k' ∧ Below w.heap.size w wx ∧ w2.heap.size ≤ wx.heap.size)
 case first =>
  go_region_with (first
   | (go_at_call 84; (with_reducible refine (i_neg _ b A n c (z) (k) ?_ ?_).mono ?_); (exact h); (omega); rintro e w3 ⟨b4, A4, n4, c4, rfl, h4, hb4⟩; replace hb4 := bnext (below_drewN (brefl _) 1) hb4; replace h' := h'.belw hb4; have bw4 := bw2.trans (hb4.mono bw2.size); have lw4 := hb4.size; replace x1a := x1a.b hb4; replace x1b := x1b.b hb4; replace x1c := x1c.b hb4; obtain ⟨dx1_1_0, dx1_1_1⟩ := x1b.c2)
   | (go_at_call 84; (with_reducible refine (i_neg _ b' A' n' c' (z') (k') ?_ ?_).mono ?_); (exact h'); (omega); rintro e w4 ⟨b5, A5, n5, c5, rfl, h5, hb5⟩; replace h4 := h4.belw hb5; have bw5 := bw4.trans (hb5.mono bw4.size); have lw5 := hb5.size; replace x1a := x1a.b hb5; replace x1b := x1b.b hb5; replace x1c := x1c.b hb5; obtain ⟨ex1_0_0, ex1_0_1⟩ := x1a.c2; obtain ⟨fx1aa, fx1ab⟩ := x1a.f2; obtain ⟨ex1_1_0, ex1_1_1⟩ := x1b.c2; obtain ⟨fx1ba, fx1bb⟩ := x1b.f2))
  all_goals
   go_wp2_with fail
   go_meet
   have kp := (((((Kp.refl w4).sb w.heap.size 0 x1a.box (by decide) (.bool b4)).sb w.heap.size 1 (x1a.box.set ⟨w.heap.size, 0, none⟩ (.bool b4)) (by decide) (.slice A4 n4 c4)).sb (w.heap.size + 1) 0 ((x1b.box.set ⟨w.heap.size, 0, none⟩ (.bool b4)).set ⟨w.heap.size, 1, none⟩ (.slice A4 n4 c4)) (by decide) (.bool b5)).sb (w.heap.size + 1) 1 (((x1b.box.set ⟨w.heap.size, 0, none⟩ (.bool b4)).set ⟨w.heap.size, 1, none⟩ (.slice A4 n4 c4)).set ⟨w.heap.size + 1, 0, none⟩ (.bool b5)) (by decide) (.slice A5 n5 c5))
   exact ⟨rfl, b4, A4, n4, c4, b5, A5, n5, c5, ((((x1a.set_at 0 (.bool b4) #[.bool b4, .slice A n c] (by simp)).set_at 1 (.slice A4 n4 c4) #[.bool b4, .slice A4 n4 c4] (by simp)).fr (w.heap.size + 1) 0 (by omega) (.bool b5)).fr (w.heap.size + 1) 1 (by omega) (.slice A5 n5 c5)), ((((x1b.fr w.heap.size 0 (by omega) (.bool b4)).fr w.heap.size 1 (by omega) (.slice A4 n4 c4)).set_at 0 (.bool b5) #[.bool b5, .slice A' n' c'] (by simp)).set_at 1 (.slice A5 n5 c5) #[.bool b5, .slice A5 n5 c5] (by simp)), ((((x1c.fr w.heap.size 0 (by omega) (.bool b4)).fr w.heap.size 1 (by omega) (.slice A4 n4 c4)).fr (w.heap.size + 1) 0 (by omega) (.bool b5)).fr (w.heap.size + 1) 1 (by omega) (.slice A5 n5 c5)), h4.keep kp, h5.keep kp, ((((bw5.sc w.heap.size 0 (by omega) (.bool b4)).sc w.heap.size 1 (by omega) (.slice A4 n4 c4)).sc (w.heap.size + 1) 0 (by omega) (.bool b5)).sc (w.heap.size + 1) 1 (by omega) (.slice A5 n5 c5)), by simp [World.setCell]; omega⟩
 case rest =>
  clear h h'
  obtain ⟨rfl, b8, A8, n8, c8, b9, A9, n9, c9, y0, y1, y2, h8, h9, bwc, lwc⟩ := hcut
  clear x1a x1b x1c
  have cy0_0 : wc.cell? ⟨w.heap.size, 0, none⟩ = some (.bool b8) := y0.cell 0
  have cy0_1 : wc.cell? ⟨w.heap.size, 1, none⟩ = some (.slice A8 n8 c8) := y0.cell 1
  obtain ⟨ly0_0, ly0_1, ly0_2, ly0_3⟩ := lts0 y0.lt
  have cy1_0 : wc.cell? ⟨w.heap.size + 1, 0, none⟩ = some (.bool b9) := y1.cell 0
  have cy1_1 : wc.cell? ⟨w.heap.size + 1, 1, none⟩ = some (.slice A9 n9 c9) := y1.cell 1
  obtain ⟨ly1_0, ly1_1, ly1_2, ly1_3⟩ := lts1 y1.lt
  go_wp2_with fail
  (with_reducible refine (i_gcd _ b8 A8 n8 c8 (-z) (k) ?_ b9 A9 n9 c9 (-z') (k') ?_ ?_).mono ?_); (exact h8.iz); (exact h9.iz); (omega); rintro e w13 ⟨b13, A13, n13, c13, rfl, h13, q13⟩
  clear cy0_0 cy0_1 ly0_0 ly0_1 ly0_2 ly0_3 cy1_0 cy1_1 ly1_0 ly1_1 ly1_2 ly1_3
  replace h8 := h8.belw q13
  replace h9 := h9.belw q13
  replace y0 := y0.b q13
  replace y1 := y1.b q13
  replace y2 := y2.b q13
  have bw13 := bwc.trans (q13.mono bwc.size)
  have lw13 := q13.size
  clear q13
  obtain ⟨cy0_0, cy0_1⟩ := y0.c2
  obtain ⟨ly0_0, ly0_1, ly0_2, ly0_3⟩ := lts0 y0.lt
  go_wp2_with fail
  (with_reducible refine (i_sign_e _ b8 A8 n8 c8 (-z) (k) ?_ (-1) ?_ ?_).mono ?_); (exact (h8.belw ((Below.refl _ _).alloc (Nat.le_refl _) _)).iz); (exact HN.out); (omega); rintro e w14 ⟨rfl, hb14⟩
  clear cy0_0 cy0_1 ly0_0 ly0_1 ly0_2 ly0_3
  have q14 := hb14.q1
  replace h8 := h8.belw q14
  replace h9 := h9.belw q14
  replace h13 := h13.belw q14
  replace y0 := y0.b q14
  replace y1 := y1.b q14
  replace y2 := y2.b q14
  have x14a : Blk w14 w13.heap.size 77 #[.bool b13, .slice A13 n13 c13] := (blkAt _ _ _ (by simp)).below hb14 (by simp)
  have bw14 := bw13.trans (q14.mono bw13.size)
  have lw14 := hb14.l1
  clear q14 bw13
  obtain ⟨cy0_0, cy0_1⟩ := y0.c2
  obtain ⟨ly0_0, ly0_1, ly0_2, ly0_3⟩ := lts0 y0.lt
  go_wp2_with fail
  (with_reducible refine (i_neg _ b8 A8 n8 c8 (-z) (k) ?_ ?_).mono ?_); (exact h8.iz); (omega); rintro e w15 ⟨b15, A15, n15, c15, rfl, h15, q15⟩
  clear cy0_0 cy0_1 ly0_0 ly0_1 ly0_2 ly0_3
  replace h8 := h8.belw q15
  replace h9 := h9.belw q15
  replace h13 := h13.belw q15
  replace y0 := y0.b q15
  replace y1 := y1.b q15
  replace y2 := y2.b q15
  replace x14a := x14a.b q15
  have bw15 := bw14.trans (q15.mono bw14.size)
  have lw15 := q15.size
  clear q15 bw14
  obtain ⟨cy0_0, cy0_1⟩ := y0.c2
  obtain ⟨fy0_0, fy0_1⟩ := y0.f2
  obtain ⟨ly0_0, ly0_1, ly0_2, ly0_3⟩ := lts0 y0.lt
  obtain ⟨cx14aa, cx14ab⟩ := x14a.c2
  obtain ⟨lx14aa, lx14ab, lx14ac, lx14ad⟩ := lts0 x14a.lt
  go_wp2_with fail
  clear cy0_0 fy0_0 cy0_1 fy0_1 ly0_0 ly0_1 ly0_2 ly0_3 cx14aa cx14ab lx14aa lx14ab lx14ac lx14ad
  have p16 := (((Kp.refl w15).sb w.heap.size 0 y0.box (by decide) (.bool b15)).sb w.heap.size 1 (y0.box.set ⟨w.heap.size, 0, none⟩ (.bool b15)) (by decide) (.slice A15 n15 c15))
  have bw16 := ((bw15.sc w.heap.size 0 (by omega) (.bool b15)).sc w.heap.size 1 (by omega) (.slice A15 n15 c15))
  replace y0 : Blk ((w15.setCell ⟨w.heap.size, 0, none⟩ (.bool b15)).setCell ⟨w.heap.size, 1, none⟩ (.slice A15 n15 c15)) w.heap.size 77 #[.bool b15, .slice A15 n15 c15] := ((y0.set_at 0 (.bool b15) #[.bool b15, .slice A8 n8 c8] (by simp)).set_at 1 (.slice A15 n15 c15) #[.bool b15, .slice A15 n15 c15] (by simp))
  replace y1 : Blk ((w15.setCell ⟨w.heap.size, 0, none⟩ (.bool b15)).setCell ⟨w.heap.size, 1, none⟩ (.slice A15 n15 c15)) (w.heap.size + 1) 77 #[.bool b9, .slice A9 n9 c9] := ((y1.fr w.heap.size 0 (by omega) (.bool b15)).fr w.heap.size 1 (by omega) (.slice A15 n15 c15))
  replace y2 : Blk ((w15.setCell ⟨w.heap.size, 0, none⟩ (.bool b15)).setCell ⟨w.heap.size, 1, none⟩ (.slice A15 n15 c15)) (w.heap.size + 1 + 1) 24 #[.bool false, .slice none 0 0, .slice none 0 0] := ((y2.fr w.heap.size 0 (by omega) (.bool b15)).fr w.heap.size 1 (by omega) (.slice A15 n15 c15))
  replace x14a := ((x14a.fr w.heap.size 0 (by omega) (.bool b15)).fr w.heap.size 1 (by omega) (.slice A15 n15 c15))
  have lw16 : w15.heap.size + 0 ≤ ((w15.setCell ⟨w.heap.size, 0, none⟩ (.bool b15)).setCell ⟨w.heap.size, 1, none⟩ (.slice A15 n15 c15)).heap.size := by simp
  generalize hE16 : ((w15.setCell ⟨w.heap.size, 0, none⟩ (.bool b15)).setCell ⟨w.heap.size, 1, none⟩ (.slice A15 n15 c15)) = w16 at p16 bw16 lw16 y0 y1 y2 x14a ⊢
  clear hE16
  replace h8 := h8.keep p16
  replace h9 := h9.keep p16
  replace h13 := h13.keep p16
  replace h15 := h15.keep p16
  clear bw15
  (with_reducible refine (i_div _ b15 A15 n15 c15 (-(-z)) ((k)) ?_ b13 A13 n13 c13 ((Nat.gcd ((-z)).natAbs ((-z')).natAbs : Nat)) ((k) + (k')) ?_  ?_ ?_).mono ?_); (exact h15.iz); (exact h13.iz); (omega); (exact HG.out); rintro e w17 ⟨b17, A17, n17, c17, b'17, A'17, n'17, c'17, rfl, h17, h'17, q17⟩
  replace h8 := h8.belw q17
  replace h9 := h9.belw q17
  replace h13 := h13.belw q17
  replace h15 := h15.belw q17
  replace y0 := y0.b q17
  replace y1 := y1.b q17
  replace y2 := y2.b q17
  replace x14a := x14a.b q17
  have bw17 := bw16.trans (q17.mono bw16.size)
  have lw17 := q17.size
  clear q17 bw16
  obtain ⟨cy0_0, cy0_1⟩ := y0.c2
  obtain ⟨fy0_0, fy0_1⟩ := y0.f2
  obtain ⟨ly0_0, ly0_1, ly0_2, ly0_3⟩ := lts0 y0.lt
  obtain ⟨cy1_0, cy1_1⟩ := y1.c2
  obtain ⟨ly1_0, ly1_1, ly1_2, ly1_3⟩ := lts1 y1.lt
  obtain ⟨cx14aa, cx14ab⟩ := x14a.c2
  obtain ⟨lx14aa, lx14ab, lx14ac, lx14ad⟩ := lts0 x14a.lt
  go_wp2_with fail
  clear cy0_0 fy0_0 cy0_1 fy0_1 ly0_0 ly0_1 ly0_2 ly0_3 cy1_0 cy1_1 ly1_0 ly1_1 ly1_2 ly1_3 cx14aa cx14ab lx14aa lx14ab lx14ac lx14ad
  have p18 := (((Kp.refl w17).sb w.heap.size 0 y0.box (by decide) (.bool b17)).sb w.heap.size 1 (y0.box.set ⟨w.heap.size, 0, none⟩ (.bool b17)) (by decide) (.slice A17 n17 c17))
  have bw18 := ((bw17.sc w.heap.size 0 (by omega) (.bool b17)).sc w.heap.size 1 (by omega) (.slice A17 n17 c17))
  replace y0 : Blk ((w17.setCell ⟨w.heap.size, 0, none⟩ (.bool b17)).setCell ⟨w.heap.size, 1, none⟩ (.slice A17 n17 c17)) w.heap.size 77 #[.bool b17, .slice A17 n17 c17] := ((y0.set_at 0 (.bool b17) #[.bool b17, .slice A15 n15 c15] (by simp)).set_at 1 (.slice A17 n17 c17) #[.bool b17, .slice A17 n17 c17] (by simp))
  replace y1 : Blk ((w17.setCell ⟨w.heap.size, 0, none⟩ (.bool b17)).setCell ⟨w.heap.size, 1, none⟩ (.slice A17 n17 c17)) (w.heap.size + 1) 77 #[.bool b9, .slice A9 n9 c9] := ((y1.fr w.heap.size 0 (by omega) (.bool b17)).fr w.heap.size 1 (by omega) (.slice A17 n17 c17))
  replace y2 : Blk ((w17.setCell ⟨w.heap.size, 0, none⟩ (.bool b17)).setCell ⟨w.heap.size, 1, none⟩ (.slice A17 n17 c17)) (w.heap.size + 1 + 1) 24 #[.bool false, .slice none 0 0, .slice none 0 0] := ((y2.fr w.heap.size 0 (by omega) (.bool b17)).fr w.heap.size 1 (by omega) (.slice A17 n17 c17))
  replace x14a := ((x14a.fr w.heap.size 0 (by omega) (.bool b17)).fr w.heap.size 1 (by omega) (.slice A17 n17 c17))
  have lw18 : w17.heap.size + 0 ≤ ((w17.setCell ⟨w.heap.size, 0, none⟩ (.bool b17)).setCell ⟨w.heap.size, 1, none⟩ (.slice A17 n17 c17)).heap.size := by simp
  generalize hE18 : ((w17.setCell ⟨w.heap.size, 0, none⟩ (.bool b17)).setCell ⟨w.heap.size, 1, none⟩ (.slice A17 n17 c17)) = w18 at p18 bw18 lw18 y0 y1 y2 x14a ⊢
  clear hE18
  replace h8 := h8.keep p18
  replace h9 := h9.keep p18
  replace h13 := h13.keep p18
  replace h15 := h15.keep p18
  replace h17 := h17.keep p18
  replace h'17 := h'17.keep p18
  clear bw17
  (with_reducible refine (i_div _ b9 A9 n9 c9 (-z') (k') ?_ b13 A13 n13 c13 ((Nat.gcd ((-z)).natAbs ((-z')).natAbs : Nat)) ((k) + (k')) ?_  ?_ ?_).mono ?_); (exact h9.iz); (exact h13.iz); (omega); (exact HG.out); rintro e w19 ⟨b19, A19, n19, c19, b'19, A'19, n'19, c'19, rfl, h19, h'19, q19⟩
  replace h8 := h8.belw q19
  replace h9 := h9.belw q19
  replace h13 := h13.belw q19
  replace h15 := h15.belw q19
  replace h17 := h17.belw q19
  replace h'17 := h'17.belw q19
  replace y0 := y0.b q19
  replace y1 := y1.b q19
  replace y2 := y2.b q19
  replace x14a := x14a.b q19
  have bw19 := bw18.trans (q19.mono bw18.size)
  have lw19 := q19.size
  clear q19 bw18
  obtain ⟨cy0_0, cy0_1⟩ := y0.c2
  obtain ⟨ly0_0, ly0_1, ly0_2, ly0_3⟩ := lts0 y0.lt
  obtain ⟨cy1_0, cy1_1⟩ := y1.c2
  have fy1 := y1.f2
  obtain ⟨ly1_0, ly1_1, ly1_2, ly1_3⟩ := lts1 y1.lt
  have cy2 := y2.c3
  have fy2 := y2.f3
  have ly2 := lts2 y2.lt
  go_wp2_with fail
  refine bodyPost_ret (v := .agg #[.bool true, .slice A17 n17 c17, .slice A19 n19 c19]) (by simp [results, Tryz.results51, go_sem, *] <;> trivial) rfl ?_
  obtain ⟨e1, e2, e3⟩ := form_neg HN.out HP.out HQ.out
  exact ⟨_, _, _, _, _, _, _, rfl, QV.mk_ (by rw [e1]; exact h17.2.1.keep ((((((Kp.refl w19).sb (w.heap.size + 1) 0 y1.box (by decide) (.bool b19)).sb (w.heap.size + 1) 1 (y1.box.set ⟨w.heap.size + 1, 0, none⟩ (.bool b19)) (by decide) (.slice A19 n19 c19)).sb (w.heap.size + 1 + 1) 0 ((y2.box.set ⟨w.heap.size + 1, 0, none⟩ (.bool b19)).set ⟨w.heap.size + 1, 1, none⟩ (.slice A19 n19 c19)) (by decide) (.bool true)).sb (w.heap.size + 1 + 1) 1 (((y2.box.set ⟨w.heap.size + 1, 0, none⟩ (.bool b19)).set ⟨w.heap.size + 1, 1, none⟩ (.slice A19 n19 c19)).set ⟨w.heap.size + 1 + 1, 0, none⟩ (.bool true)) (by decide) (.slice A17 n17 c17)).sb (w.heap.size + 1 + 1) 2 ((((y2.box.set ⟨w.heap.size + 1, 0, none⟩ (.bool b19)).set ⟨w.heap.size + 1, 1, none⟩ (.slice A19 n19 c19)).set ⟨w.heap.size + 1 + 1, 0, none⟩ (.bool true)).set ⟨w.heap.size + 1 + 1, 1, none⟩ (.slice A17 n17 c17)) (by decide) (.slice A19 n19 c19))) (by rw [e2]; exact h19.2.1.keep ((((((Kp.refl w19).sb (w.heap.size + 1) 0 y1.box (by decide) (.bool b19)).sb (w.heap.size + 1) 1 (y1.box.set ⟨w.heap.size + 1, 0, none⟩ (.bool b19)) (by decide) (.slice A19 n19 c19)).sb (w.heap.size + 1 + 1) 0 ((y2.box.set ⟨w.heap.size + 1, 0, none⟩ (.bool b19)).set ⟨w.heap.size + 1, 1, none⟩ (.slice A19 n19 c19)) (by decide) (.bool true)).sb (w.heap.size + 1 + 1) 1 (((y2.box.set ⟨w.heap.size + 1, 0, none⟩ (.bool b19)).set ⟨w.heap.size + 1, 1, none⟩ (.slice A19 n19 c19)).set ⟨w.heap.size + 1 + 1, 0, none⟩ (.bool true)) (by decide) (.slice A17 n17 c17)).sb (w.heap.size + 1 + 1) 2 ((((y2.box.set ⟨w.heap.size + 1, 0, none⟩ (.bool b19)).set ⟨w.heap.size + 1, 1, none⟩ (.slice A19 n19 c19)).set ⟨w.heap.size + 1 + 1, 0, none⟩ (.bool true)).set ⟨w.heap.size + 1 + 1, 1, none⟩ (.slice A17 n17 c17)) (by decide) (.slice A19 n19 c19))) e3 HS.out, (((((bw19.sc (w.heap.size + 1) 0 (by omega) (.bool b19)).sc (w.heap.size + 1) 1 (by omega) (.slice A19 n19 c19)).sc (w.heap.size + 1 + 1) 0 (by omega) (.bool true)).sc (w.heap.size + 1 + 1) 1 (by omega) (.slice A17 n17 c17)).sc (w.heap.size + 1 + 1) 2 (by omega) (.slice A19 n19 c19))⟩
theorem f_form_nn (w : World) (b A n c z k) (h : IZ w b A n c z k) (b' A' n' c' z' k') (h' : IZ w b' A' n' c' z' k') (q : Rat) (K : Nat) (hz : z.sign = -1) (hd : z'.sign = -1) (hq : Rat.divInt z z' = q) (hs : Sz q K) (hk : k + k' ≤ 300000000) :
  Calls Tryz.prog 51 #[.agg #[.bool b, .slice A n c], .agg #[.bool b', .slice A' n' c']] w (RetF w q K) := by
 have HZ := Lib.hid hz
 have HD := Lib.hid hd
 have HN := Lib.hid (show ((-z)).sign = 1 by rw [Int.sign_neg, hz] <;> rfl)
 have HP := Lib.hid (show 0 < (-z') by exact sign_neg_ hd)
 have HG := Lib.hid (show ((Nat.gcd ((-z)).natAbs ((-z')).natAbs : Nat) : Int) ≠ 0 from gcd_ne HP.out)
 have HQ := Lib.hid (show Rat.divInt (-z) (-z') = q by rw [divInt_neg_neg _ _ (sign_ne hd)]; exact hq)
 have HS := Lib.hid hs
 clear hz hd hq hs
 go_enter Tryz.func51, Tryz.ntmps51
 go_wp2_with fail
 (with_reducible refine (i_sign_e _ b A n c (z) (k) ?_ (-1) ?_ ?_).mono ?_); (exact (h.belw ((((Below.refl _ _).alloc (Nat.le_refl _) _).alloc (by simp) _).alloc (by simp <;> omega) _))); (exact HZ.out); (omega); rintro e w1 ⟨rfl, hb1⟩
 have q1 := hb1.q3
 replace h := h.belw q1
 replace h' := h'.belw q1
 have x1a : Blk w1 w.heap.size 77 #[.bool b, .slice A n c] := (((blkAt _ _ _ (by simp)).alloc _).alloc _).below hb1 (by simp <;> omega)
 have x1b := ((blkAt _ _ _ (g := w.heap.size + 1) (by simp)).alloc _).below hb1 (by simp <;> omega)
 have x1c := (blkAt _ _ _ (g := w.heap.size + 1 + 1) (by simp)).below hb1 (by simp)
 have bw1 := (brefl w).trans (q1.mono (brefl w).size)
 have lw1 := hb1.l3
 clear q1
 obtain ⟨cx1ba, cx1bb⟩ := x1b.c2
 have lx1b := lts1 x1b.lt
 go_wp2_with fail
 (with_reducible refine (i_sign_e _ b' A' n' c' (z') (k') ?_ (-1) ?_ ?_).mono ?_); (exact h'); (exact HD.out); (omega); rintro e w2 ⟨rfl, q2⟩
 clear cx1ba cx1bb lx1b
 replace h := h.belw q2
 replace h' := h'.belw q2
 replace x1a := x1a.b q2
 replace x1b := x1b.b q2
 replace x1c := x1c.b q2
 have bw2 := bw1.trans (q2.mono bw1.size)
 have lw2 := q2.size
 clear q2 bw1
 go_wp2_with fail
 have cx1a := x1a.c2
 obtain ⟨cx1ba, cx1bb⟩ := x1b.c2
 go_cut [2] (fun s2 wx => s2 = .pointer (some ⟨w.heap.size, 0, none⟩) ∧ ∃ b8 A8 n8 c8 b9 A9 n9 c9, Blk wx w.heap.size 77 #[.bool b8, .slice A8 n8 c8] ∧ Blk wx (w.heap.size + 1) 77 #[.bool b9, .slice A9 n9 c9] ∧ Blk wx (w.heap.size + 1 + 1) 24 #[.bool false, .slice none 0 0, .slice none 0 0] ∧ IV wx b8 A8 n8 c8 (-z) k ∧ IV wx b9 A9 n9 c9 (-z') k' ∧ Below w.heap.size w wx ∧ w2.heap.size ≤ wx.heap.size)
 case first =>
  go_region_with (first
   | (go_at_call 84; (with_reducible refine (i_neg _ b A n c (z) (k) ?_ ?_).mono ?_); (exact h); (omega); rintro e w3 ⟨b4, A4, n4, c4, rfl, h4, hb4⟩; replace hb4 := bnext (below_drewN (brefl _) 1) hb4; replace h' := h'.belw hb4; have bw4 := bw2.trans (hb4.mono bw2.size); have lw4 := hb4.size; replace x1a := x1a.b hb4; replace x1b := x1b.b hb4; replace x1c := x1c.b hb4; obtain ⟨dx1_1_0, dx1_1_1⟩ := x1b.c2)
   | (go_at_call 84; (with_reducible refine (i_neg _ b' A' n' c' (z') (k') ?_ ?_).mono ?_); (exact h'); (omega); rintro e w4 ⟨b5, A5, n5, c5, rfl, h5, hb5⟩; replace h4 := h4.belw hb5; have bw5 := bw4.trans (hb5.mono bw4.size); have lw5 := hb5.size; replace x1a := x1a.b hb5; replace x1b := x1b.b hb5; replace x1c := x1c.b hb5; obtain ⟨ex1_0_0, ex1_0_1⟩ := x1a.c2; obtain ⟨fx1aa, fx1ab⟩ := x1a.f2; obtain ⟨ex1_1_0, ex1_1_1⟩ := x1b.c2; obtain ⟨fx1ba, fx1bb⟩ := x1b.f2))
  all_goals
   go_wp2_with fail
   go_meet
   have kp := (((((Kp.refl w4).sb w.heap.size 0 x1a.box (by decide) (.bool b4)).sb w.heap.size 1 (x1a.box.set ⟨w.heap.size, 0, none⟩ (.bool b4)) (by decide) (.slice A4 n4 c4)).sb (w.heap.size + 1) 0 ((x1b.box.set ⟨w.heap.size, 0, none⟩ (.bool b4)).set ⟨w.heap.size, 1, none⟩ (.slice A4 n4 c4)) (by decide) (.bool b5)).sb (w.heap.size + 1) 1 (((x1b.box.set ⟨w.heap.size, 0, none⟩ (.bool b4)).set ⟨w.heap.size, 1, none⟩ (.slice A4 n4 c4)).set ⟨w.heap.size + 1, 0, none⟩ (.bool b5)) (by decide) (.slice A5 n5 c5))
   exact ⟨rfl, b4, A4, n4, c4, b5, A5, n5, c5, ((((x1a.set_at 0 (.bool b4) #[.bool b4, .slice A n c] (by simp)).set_at 1 (.slice A4 n4 c4) #[.bool b4, .slice A4 n4 c4] (by simp)).fr (w.heap.size + 1) 0 (by omega) (.bool b5)).fr (w.heap.size + 1) 1 (by omega) (.slice A5 n5 c5)), ((((x1b.fr w.heap.size 0 (by omega) (.bool b4)).fr w.heap.size 1 (by omega) (.slice A4 n4 c4)).set_at 0 (.bool b5) #[.bool b5, .slice A' n' c'] (by simp)).set_at 1 (.slice A5 n5 c5) #[.bool b5, .slice A5 n5 c5] (by simp)), ((((x1c.fr w.heap.size 0 (by omega) (.bool b4)).fr w.heap.size 1 (by omega) (.slice A4 n4 c4)).fr (w.heap.size + 1) 0 (by omega) (.bool b5)).fr (w.heap.size + 1) 1 (by omega) (.slice A5 n5 c5)), h4.keep kp, h5.keep kp, ((((bw5.sc w.heap.size 0 (by omega) (.bool b4)).sc w.heap.size 1 (by omega) (.slice A4 n4 c4)).sc (w.heap.size + 1) 0 (by omega) (.bool b5)).sc (w.heap.size + 1) 1 (by omega) (.slice A5 n5 c5)), by simp [World.setCell]; omega⟩
 case rest =>
  clear h h'
  obtain ⟨rfl, b8, A8, n8, c8, b9, A9, n9, c9, y0, y1, y2, h8, h9, bwc, lwc⟩ := hcut
  clear x1a x1b x1c
  obtain ⟨cy0_0, cy0_1⟩ := y0.c2
  obtain ⟨ly0_0, ly0_1, ly0_2, ly0_3⟩ := lts0 y0.lt
  obtain ⟨cy1_0, cy1_1⟩ := y1.c2
  obtain ⟨ly1_0, ly1_1, ly1_2, ly1_3⟩ := lts1 y1.lt
  go_wp2_with fail
  (with_reducible refine (i_gcd _ b8 A8 n8 c8 (-z) (k) ?_ b9 A9 n9 c9 (-z') (k') ?_ ?_).mono ?_); (exact h8.iz); (exact h9.iz); (omega); rintro e w13 ⟨b13, A13, n13, c13, rfl, h13, q13⟩
  clear cy0_0 cy0_1 ly0_0 ly0_1 ly0_2 ly0_3 cy1_0 cy1_1 ly1_0 ly1_1 ly1_2 ly1_3
  replace h8 := h8.belw q13
  replace h9 := h9.belw q13
  replace y0 := y0.b q13
  replace y1 := y1.b q13
  replace y2 := y2.b q13
  have bw13 := bwc.trans (q13.mono bwc.size)
  have lw13 := q13.size
  clear q13
  obtain ⟨cy0_0, cy0_1⟩ := y0.c2
  obtain ⟨ly0_0, ly0_1, ly0_2, ly0_3⟩ := lts0 y0.lt
  go_wp2_with fail
  (with_reducible refine (i_sign_e _ b8 A8 n8 c8 (-z) (k) ?_ (1) ?_ ?_).mono ?_); (exact (h8.belw ((Below.refl _ _).alloc (Nat.le_refl _) _)).iz); (exact HN.out); (omega); rintro e w14 ⟨rfl, hb14⟩
  clear cy0_0 cy0_1 ly0_0 ly0_1 ly0_2 ly0_3
  have q14 := hb14.q1
  replace h8 := h8.belw q14
  replace h9 := h9.belw q14
  replace h13 := h13.belw q14
  replace y0 := y0.b q14
  replace y1 := y1.b q14
  replace y2 := y2.b q14
  have x14a : Blk w14 w13.heap.size 77 #[.bool b13, .slice A13 n13 c13] := (blkAt _ _ _ (by simp)).below hb14 (by simp)
  have bw14 := bw13.trans (q14.mono bw13.size)
  have lw14 := hb14.l1
  clear q14 bw13
  obtain ⟨cy0_0, cy0_1⟩ := y0.c2
  obtain ⟨ly0_0, ly0_1, ly0_2, ly0_3⟩ := lts0 y0.lt
  obtain ⟨cx14aa, cx14ab⟩ := x14a.c2
  obtain ⟨lx14aa, lx14ab, lx14ac, lx14ad⟩ := lts0 x14a.lt
  go_wp2_with fail
  (with_reducible refine (i_div _ b8 A8 n8 c8 (-z) (k) ?_ b13 A13 n13 c13 ((Nat.gcd ((-z)).natAbs ((-z')).natAbs : Nat)) ((k) + (k')) ?_  ?_ ?_).mono ?_); (exact h8.iz); (exact h13.iz); (omega); (exact HG.out); rintro e w15 ⟨b15, A15, n15, c15, b'15, A'15, n'15, c'15, rfl, h15, h'15, q15⟩
  clear cy0_0 cy0_1 ly0_0 ly0_1 ly0_2 ly0_3 cx14aa cx14ab lx14aa lx14ab lx14ac lx14ad
  replace h8 := h8.belw q15
  replace h9 := h9.belw q15
  replace h13 := h13.belw q15
  replace y0 := y0.b q15
  replace y1 := y1.b q15
  replace y2 := y2.b q15
  replace x14a := x14a.b q15
  have bw15 := bw14.trans (q15.mono bw14.size)
  have lw15 := q15.size
  clear q15 bw14
  obtain ⟨cy0_0, cy0_1⟩ := y0.c2
  have fy0 := y0.f2
  obtain ⟨ly0_0, ly0_1, ly0_2, ly0_3⟩ := lts0 y0.lt
  obtain ⟨cy1_0, cy1_1⟩ := y1.c2
  obtain ⟨ly1_0, ly1_1, ly1_2, ly1_3⟩ := lts1 y1.lt
  obtain ⟨cx14aa, cx14ab⟩ := x14a.c2
  obtain ⟨lx14aa, lx14ab, lx14ac, lx14ad⟩ := lts0 x14a.lt
  go_wp2_with fail
  clear cy0_0 fy0 cy0_1 ly0_0 ly0_1 ly0_2 ly0_3 cy1_0 cy1_1 ly1_0 ly1_1 ly1_2 ly1_3 cx14aa cx14ab lx14aa lx14ab lx14ac lx14ad
  have p16 := (((Kp.refl w15).sb w.heap.size 0 y0.box (by decide) (.bool b15)).sb w.heap.size 1 (y0.box.set ⟨w.heap.size, 0, none⟩ (.bool b15)) (by decide) (.slice A15 n15 c15))
  have bw16 := ((bw15.sc w.heap.size 0 (by omega) (.bool b15)).sc w.heap.size 1 (by omega) (.slice A15 n15 c15))
  replace y0 : Blk ((w15.setCell ⟨w.heap.size, 0, none⟩ (.bool b15)).setCell ⟨w.heap.size, 1, none⟩ (.slice A15 n15 c15)) w.heap.size 77 #[.bool b15, .slice A15 n15 c15] := ((y0.set_at 0 (.bool b15) #[.bool b15, .slice A8 n8 c8] (by simp)).set_at 1 (.slice A15 n15 c15) #[.bool b15, .slice A15 n15 c15] (by simp))
  replace y1 : Blk ((w15.setCell ⟨w.heap.size, 0, none⟩ (.bool b15)).setCell ⟨w.heap.size, 1, none⟩ (.slice A15 n15 c15)) (w.heap.size + 1) 77 #[.bool b9, .slice A9 n9 c9] := ((y1.fr w.heap.size 0 (by omega) (.bool b15)).fr w.heap.size 1 (by omega) (.slice A15 n15 c15))
  replace y2 : Blk ((w15.setCell ⟨w.heap.size, 0, none⟩ (.bool b15)).setCell ⟨w.heap.size, 1, none⟩ (.slice A15 n15 c15)) (w.heap.size + 1 + 1) 24 #[.bool false, .slice none 0 0, .slice none 0 0] := ((y2.fr w.heap.size 0 (by omega) (.bool b15)).fr w.heap.size 1 (by omega) (.slice A15 n15 c15))
  replace x14a := ((x14a.fr w.heap.size 0 (by omega) (.bool b15)).fr w.heap.size 1 (by omega) (.slice A15 n15 c15))
  have lw16 : w15.heap.size + 0 ≤ ((w15.setCell ⟨w.heap.size, 0, none⟩ (.bool b15)).setCell ⟨w.heap.size, 1, none⟩ (.slice A15 n15 c15)).heap.size := by simp
  generalize hE16 : ((w15.setCell ⟨w.heap.size, 0, none⟩ (.bool b15)).setCell ⟨w.heap.size, 1, none⟩ (.slice A15 n15 c15)) = w16 at p16 bw16 lw16 y0 y1 y2 x14a ⊢
  clear hE16
  replace h8 := h8.keep p16
  replace h9 := h9.keep p16
  replace h13 := h13.keep p16
  replace h15 := h15.keep p16
  replace h'15 := h'15.keep p16
  clear bw15
  (with_reducible refine (i_div _ b9 A9 n9 c9 (-z') (k') ?_ b13 A13 n13 c13 ((Nat.gcd ((-z)).natAbs ((-z')).natAbs : Nat)) ((k) + (k')) ?_  ?_ ?_).mono ?_); (exact h9.iz); (exact h13.iz); (omega); (exact HG.out); rintro e w17 ⟨b17, A17, n17, c17, b'17, A'17, n'17, c'17, rfl, h17, h'17, q17⟩
  replace h8 := h8.belw q17
  replace h9 := h9.belw q17
  replace h13 := h13.belw q17
  replace h15 := h15.belw q17
  replace h'15 := h'15.belw q17
  replace y0 := y0.b q17
  replace y1 := y1.b q17
  replace y2 := y2.b q17
  replace x14a := x14a.b q17
  have bw17 := bw16.trans (q17.mono bw16.size)
  have lw17 := q17.size
  clear q17 bw16
  obtain ⟨cy0_0, cy0_1⟩ := y0.c2
  obtain ⟨ly0_0, ly0_1, ly0_2, ly0_3⟩ := lts0 y0.lt
  obtain ⟨cy1_0, cy1_1⟩ := y1.c2
  have fy1 := y1.f2
  obtain ⟨ly1_0, ly1_1, ly1_2, ly1_3⟩ := lts1 y1.lt
  have cy2 := y2.c3
  have fy2 := y2.f3
  have ly2 := lts2 y2.lt
  go_wp2_with fail
  refine bodyPost_ret (v := .agg #[.bool false, .slice A15 n15 c15, .slice A17 n17 c17]) (by simp [results, Tryz.results51, go_sem, *] <;> trivial) rfl ?_
  obtain ⟨e1, e2, e3⟩ := form_pos HN.out HP.out HQ.out
  exact ⟨_, _, _, _, _, _, _, rfl, QV.mk_ (by rw [e1]; exact h15.2.1.keep ((((((Kp.refl w17).sb (w.heap.size + 1) 0 y1.box (by decide) (.bool b17)).sb (w.heap.size + 1) 1 (y1.box.set ⟨w.heap.size + 1, 0, none⟩ (.bool b17)) (by decide) (.slice A17 n17 c17)).sb (w.heap.size + 1 + 1) 0 ((y2.box.set ⟨w.heap.size + 1, 0, none⟩ (.bool b17)).set ⟨w.heap.size + 1, 1, none⟩ (.slice A17 n17 c17)) (by decide) (.bool false)).sb (w.heap.size + 1 + 1) 1 (((y2.box.set ⟨w.heap.size + 1, 0, none⟩ (.bool b17)).set ⟨w.heap.size + 1, 1, none⟩ (.slice A17 n17 c17)).set ⟨w.heap.size + 1 + 1, 0, none⟩ (.bool false)) (by decide) (.slice A15 n15 c15)).sb (w.heap.size + 1 + 1) 2 ((((y2.box.set ⟨w.heap.size + 1, 0, none⟩ (.bool b17)).set ⟨w.heap.size + 1, 1, none⟩ (.slice A17 n17 c17)).set ⟨w.heap.size + 1 + 1, 0, none⟩ (.bool false)).set ⟨w.heap.size + 1 + 1, 1, none⟩ (.slice A15 n15 c15)) (by decide) (.slice A17 n17 c17))) (by rw [e2]; exact h17.2.1.keep ((((((Kp.refl w17).sb (w.heap.size + 1) 0 y1.box (by decide) (.bool b17)).sb (w.heap.size + 1) 1 (y1.box.set ⟨w.heap.size + 1, 0, none⟩ (.bool b17)) (by decide) (.slice A17 n17 c17)).sb (w.heap.size + 1 + 1) 0 ((y2.box.set ⟨w.heap.size + 1, 0, none⟩ (.bool b17)).set ⟨w.heap.size + 1, 1, none⟩ (.slice A17 n17 c17)) (by decide) (.bool false)).sb (w.heap.size + 1 + 1) 1 (((y2.box.set ⟨w.heap.size + 1, 0, none⟩ (.bool b17)).set ⟨w.heap.size + 1, 1, none⟩ (.slice A17 n17 c17)).set ⟨w.heap.size + 1 + 1, 0, none⟩ (.bool false)) (by decide) (.slice A15 n15 c15)).sb (w.heap.size + 1 + 1) 2 ((((y2.box.set ⟨w.heap.size + 1, 0, none⟩ (.bool b17)).set ⟨w.heap.size + 1, 1, none⟩ (.slice A17 n17 c17)).set ⟨w.heap.size + 1 + 1, 0, none⟩ (.bool false)).set ⟨w.heap.size + 1 + 1, 1, none⟩ (.slice A15 n15 c15)) (by decide) (.slice A17 n17 c17))) e3 HS.out, (((((bw17.sc (w.heap.size + 1) 0 (by omega) (.bool b17)).sc (w.heap.size + 1) 1 (by omega) (.slice A17 n17 c17)).sc (w.heap.size + 1 + 1) 0 (by omega) (.bool false)).sc (w.heap.size + 1 + 1) 1 (by omega) (.slice A15 n15 c15)).sc (w.heap.size + 1 + 1) 2 (by omega) (.slice A17 n17 c17))⟩
theorem f_form (w : World) (b A n c z k) (h : IZ w b A n c z k) (b' A' n' c' z' k') (h' : IZ w b' A' n' c' z' k') (q : Rat) (K : Nat) (hd : z' ≠ 0) (hq : Rat.divInt z z' = q) (hs : Sz q K) (hk : k + k' ≤ 300000000) :
    Calls Tryz.prog 51 #[.agg #[.bool b, .slice A n c], .agg #[.bool b', .slice A' n' c']] w (RetF w q K) := by
  rcases sign3 z with s | s | s
  · rw [← hq, s, Rat.zero_divInt]; exact f_form_0 w b A n c z k h b' A' n' c' z' k' h' K s hk
  · rcases sign3 z' with t | t | t
    · exact absurd t hd
    · exact f_form_pp w b A n c z k h b' A' n' c' z' k' h' q K s t hq hs hk
    · exact f_form_np w b A n c z k h b' A' n' c' z' k' h' q K s t hq hs hk
  · rcases sign3 z' with t | t | t
    · exact absurd t hd
    · exact f_form_pn w b A n c z k h b' A' n' c' z' k' h' q K s t hq hs hk
    · exact f_form_nn w b A n c z k h b' A' n' c' z' k' h' q K s t hq hs hk
end Go.Proofs.YtianjkiakkclgaaGreatDoor

/- Walks: fractions: what is valid, the parts. -/
namespace Go.Proofs.YtianjkiakkclgaaGreatDoor
open Go Go.RowKit Bn
attribute [local go_sem ↓] Go.wp_at_zero Go.wp_at_succ

section
variable {w : World} {b : Bool} {A : Option Addr} {n c : Nat} {D : Option Addr} {m e : Nat} {a : RD} {k : Nat} (h : QD w b A n c D m e a k)
include h
theorem ok_00 (h1 : n = 0) (h2 : m = 0) : a.ok = !b := by
  have e1 : a.num = [] := List.eq_nil_of_length_eq_zero (by rw [← h.2.1.2.1, h1])
  have e2 : a.den = [] := List.eq_nil_of_length_eq_zero (by rw [← h.2.2.1.2.1, h2])
  unfold RD.ok
  rw [if_pos ⟨e1, e2⟩, h.1]
theorem QD.num_ne (h1 : 0 < n) : a.num ≠ [] := by intro e; have := h.2.1.2.1; rw [e] at this; simp at this; omega
theorem QD.den_ne_ (h1 : 0 < m) : a.den ≠ [] := by intro e; have := h.2.2.1.2.1; rw [e] at this; simp at this; omega
theorem ok_01 (h1 : n = 0) (h2 : 0 < m) : a.ok = false := by
  have e1 : a.num = [] := List.eq_nil_of_length_eq_zero (by rw [← h.2.1.2.1, h1])
  unfold RD.ok
  rw [if_neg (by intro x; exact h.den_ne_ h2 x.2)]; simp [e1]
theorem ok_02 (h1 : 0 < n) (h2 : m = 0) : a.ok = false := by
  have e2 : a.den = [] := List.eq_nil_of_length_eq_zero (by rw [← h.2.2.1.2.1, h2])
  unfold RD.ok
  rw [if_neg (by intro x; exact h.num_ne h1 x.1)]; simp [e2]
omit h in
theorem wdok_ {l : List Nat} (hl : l ≠ []) : WD.ok ⟨false, l⟩ = last0 l := by unfold WD.ok last0; simp [hl]
theorem ok_pos (h1 : 0 < n) (h2 : 0 < m) : a.ok = (WD.ok ⟨false, a.num⟩ && WD.ok ⟨false, a.den⟩ && Nat.gcd (val a.num) (val a.den) == 1) := by
  have e1 := h.num_ne h1
  have e2 := h.den_ne_ h2
  unfold RD.ok
  have f1 : (a.num != []) = true := bne_iff_ne.2 e1
  have f2 : (a.den != []) = true := bne_iff_ne.2 e2
  rw [if_neg (by intro x; exact e1 x.1), wdok_ e1, wdok_ e2, f1, f2]
  rfl
theorem ok_3 (h1 : 0 < n) (h2 : 0 < m) (h3 : WD.ok ⟨false, a.num⟩ = false) : a.ok = false := by rw [ok_pos h h1 h2, h3]; rfl
theorem ok_4 (h1 : 0 < n) (h2 : 0 < m) (h3 : WD.ok ⟨false, a.num⟩ = true) (h4 : WD.ok ⟨false, a.den⟩ = false) : a.ok = false := by rw [ok_pos h h1 h2, h3, h4]; rfl
theorem ok_5 (h1 : 0 < n) (h2 : 0 < m) (h3 : WD.ok ⟨false, a.num⟩ = true) (h4 : WD.ok ⟨false, a.den⟩ = true) : a.ok = (Nat.gcd (val a.num) (val a.den) == 1) := by rw [ok_pos h h1 h2, h3, h4]; rfl
theorem QD.num_z (hk : WD.ok ⟨false, a.num⟩ = true) : IZ w false A n c (val a.num : Int) k := ⟨_, h.2.1, by simp [WD.z, hk], h.2.2.2.1⟩
theorem QD.den_z (hk : WD.ok ⟨false, a.den⟩ = true) : IZ w false D m e (val a.den : Int) k := ⟨_, h.2.2.1, by simp [WD.z, hk], h.2.2.2.2⟩
end
theorem ok_last {x y : Nat} {s : Int} {r : Bool} (hc : cmpI ((Nat.gcd ((x : Int)).natAbs ((y : Int)).natAbs : Nat)) 1 = s) (hr : r = (Nat.gcd x y == 1)) : (s == 0) = r := by
  subst hc hr
  simp only [Int.natAbs_natCast]
  generalize Nat.gcd x y = g
  unfold cmpI
  by_cases h1 : g = 1
  · subst h1; rfl
  · by_cases h2 : g < 1
    · have : g = 0 := by omega
      subst this; rfl
    · have h3 : ¬ ((g : Int) < 1) := by omega
      have h4 : ¬ ((g : Int) = 1) := by omega
      simp [h1, h3, h4]
theorem i_valid_e (w : World) (b : Bool) (A : Option Addr) (n c : Nat) (v : Bool) (l : List Nat) (h : Wd w A n c l) (hv : WD.ok ⟨b, l⟩ = v) (hn : n ≤ 1000000000) :
    Calls Tryz.prog 110 #[.agg #[.bool b, .slice A n c]] w (RetV w (.bool v)) := by subst hv; exact valid_c w b A n c l h (by omega)
theorem i_cmp_e (w : World) (b A n c z k) (h : IZ w b A n c z k) (b' A' n' c' z' k') (h' : IZ w b' A' n' c' z' k') (s : Int) (hs : cmpI z z' = s) (hk : k + k' ≤ 1000000000) :
    Calls Tryz.prog 49 #[.agg #[.bool b, .slice A n c], .agg #[.bool b', .slice A' n' c']] w (RetV w (.int .i64 s)) := by subst hs; exact i_cmp w b A n c z k h b' A' n' c' z' k' h' hk
theorem f_one (w : World)  :
  Calls Tryz.prog 54 #[] w (RetI w 1 1) := by
 go_enter Tryz.func54, Tryz.ntmps54
 go_wp2_with fail
 (with_reducible refine (i_of1 _ (1) ?_ ?_).mono ?_); (omega); (omega); rintro e w1 ⟨b1, A1, n1, c1, rfl, h1, hb1⟩
 have q1 := hb1.q1
 have x1a : Blk w1 w.heap.size 77 #[.bool false, .slice none 0 0] := (blkAt _ _ _ (by simp)).below hb1 (by simp)
 have bw1 := (brefl w).trans (q1.mono (brefl w).size)
 have lw1 := hb1.l1
 clear q1
 have cx1a := x1a.c2
 have fx1a := x1a.f2
 have lx1a := lts0 x1a.lt
 go_wp2_with fail
 refine bodyPost_ret (v := .agg #[.bool b1, .slice A1 n1 c1]) (by simp [results, Tryz.results54, go_sem, *] <;> trivial) rfl ?_
 exact ⟨b1, A1, n1, c1, rfl, h1.keep (((Kp.refl w1).sb w.heap.size 0 x1a.box (by decide) (.bool b1)).sb w.heap.size 1 (x1a.box.set ⟨w.heap.size, 0, none⟩ (.bool b1)) (by decide) (.slice A1 n1 c1)), ((bw1.sc w.heap.size 0 (by omega) (.bool b1)).sc w.heap.size 1 (by omega) (.slice A1 n1 c1))⟩
theorem f_valid_0 (w : World) (b A n c D m e a k) (h : QD w b A n c D m e a k) (hk : k ≤ 300000000) (h1 : n = 0) (h2 : m = 0) :
  Calls Tryz.prog 76 #[.agg #[.bool b, .slice A n c, .slice D m e]] w (RetV w (.bool a.ok)) := by
 have HR := Lib.hid (show a.ok = !b from ok_00 h h1 h2)
 have HK := Lib.hid hk
 subst h1 h2
 clear h hk
 go_enter Tryz.func76, Tryz.ntmps76
 go_wp2
 go_ret
 exact retB (by rw [HR.out]) ((Below.refl _ _).alloc (Nat.le_refl _) _)
theorem f_valid_1 (w : World) (b A n c D m e a k) (h : QD w b A n c D m e a k) (hk : k ≤ 300000000) (h1 : n = 0) (h2 : 0 < m) :
  Calls Tryz.prog 76 #[.agg #[.bool b, .slice A n c, .slice D m e]] w (RetV w (.bool a.ok)) := by
 have HR := Lib.hid (show a.ok = false from ok_01 h h1 h2)
 have HK := Lib.hid hk
 have e1 : ((n : Int) == 0) = true := by simp [h1]
 have e2 : ((m : Int) == 0) = false := by simp; omega
 clear h1 h2 hk
 go_enter Tryz.func76, Tryz.ntmps76
 go_wp2_with fail
 have p1 := ((Kp.refl w).alloc (.cells #[.bool b, .slice A n c, .slice D m e] 24))
 have bw1 := ((brefl w).alloc (by first | omega | (simp <;> omega)) (.cells #[.bool b, .slice A n c, .slice D m e] 24))
 have x1a : Blk (w.alloc (.cells #[.bool b, .slice A n c, .slice D m e] 24)) w.heap.size 24 #[.bool b, .slice A n c, .slice D m e] := (blkAt _ _ _ (by simp))
 have lw1 : w.heap.size + 1 ≤ (w.alloc (.cells #[.bool b, .slice A n c, .slice D m e] 24)).heap.size := by simp
 generalize hE1 : (w.alloc (.cells #[.bool b, .slice A n c, .slice D m e] 24)) = w1 at p1 bw1 lw1 x1a ⊢
 clear hE1
 replace h := h.keep p1
 have cx1a := x1a.c3
 have lx1a := lts0 x1a.lt
 go_cut [3, 4] (fun s3 s4 wx => ∃ g3 g4, s3 = .pointer (some ⟨g3, 0, none⟩) ∧ s4 = .pointer (some ⟨g4, 0, none⟩) ∧ Blk wx g3 77 #[.bool false, .slice A n c] ∧ Blk wx g4 77 #[.bool false, .slice D m e] ∧ Blk wx w.heap.size 24 #[.bool b, .slice A n c, .slice D m e] ∧ Below w1.heap.size w1 wx)
 case first =>
  go_region_held3 (fun w' => Sees w1.heap.size w1 w') (first | exact Sees.of (Nat.le_refl _) (below_drewN (brefl _) 1) | exact Sees.of (Nat.le_refl _) ((below_drewN (brefl _) 1).alloc (Nat.le_refl _) _) | exact Sees.of (Nat.le_refl _) (((below_drewN (brefl _) 1).alloc (Nat.le_refl _) _).alloc (by simp) _) | exact Sees.of (Nat.le_refl _) ((((below_drewN (brefl _) 1).alloc (Nat.le_refl _) _).alloc (by simp) _).setCell (by simp) _)) (fail)
  all_goals
   go_wp2_with fail
   go_meet
   first
    | exact ⟨_, _, rfl, rfl, ((blkAt _ _ _ rfl).alloc _).drew, (blkAt _ _ _ (by simp)).drew, ((x1a.alloc _).alloc _).drew, ((((Below.refl _ _).alloc (Nat.le_refl _) _).alloc (by simp) _).drew)⟩
    | exact ⟨_, _, rfl, rfl, (blkAt _ _ _ (by simp)).drew, ((blkAt _ _ _ rfl).alloc _).drew, ((x1a.alloc _).alloc _).drew, ((((Below.refl _ _).alloc (Nat.le_refl _) _).alloc (by simp) _).drew)⟩
 case rest =>
  clear cx1a lx1a
  obtain ⟨g3, g4, rfl, rfl, y3, y4, y1, q1⟩ := hcut
  replace h := h.belw q1
  have bwc : Below w.heap.size w wc := bw1.trans (q1.mono bw1.size)
  clear x1a bw1
  have cy1_0 : wc.cell? ⟨w.heap.size, 0, none⟩ = some (.bool b) := y1.cell 0
  have cy1_1 : wc.cell? ⟨w.heap.size, 1, none⟩ = some (.slice A n c) := y1.cell 1
  have cy1_2 : wc.cell? ⟨w.heap.size, 2, none⟩ = some (.slice D m e) := y1.cell 2
  have ly1 := lts0 y1.lt
  go_wp2
  go_ret
  exact retB HR.out.symm bwc
theorem f_valid_2 (w : World) (b A n c D m e a k) (h : QD w b A n c D m e a k) (hk : k ≤ 300000000) (h1 : 0 < n) (h2 : m = 0) :
  Calls Tryz.prog 76 #[.agg #[.bool b, .slice A n c, .slice D m e]] w (RetV w (.bool a.ok)) := by
 have HR := Lib.hid (show a.ok = false from ok_02 h h1 h2)
 have HK := Lib.hid hk
 have e1 : ((n : Int) == 0) = false := by simp; omega
 have e2 : ((m : Int) == 0) = true := by simp [h2]
 clear h1 h2 hk
 go_enter Tryz.func76, Tryz.ntmps76
 go_wp2_with fail
 have p1 := ((Kp.refl w).alloc (.cells #[.bool b, .slice A n c, .slice D m e] 24))
 have bw1 := ((brefl w).alloc (by first | omega | (simp <;> omega)) (.cells #[.bool b, .slice A n c, .slice D m e] 24))
 have x1a : Blk (w.alloc (.cells #[.bool b, .slice A n c, .slice D m e] 24)) w.heap.size 24 #[.bool b, .slice A n c, .slice D m e] := (blkAt _ _ _ (by simp))
 have lw1 : w.heap.size + 1 ≤ (w.alloc (.cells #[.bool b, .slice A n c, .slice D m e] 24)).heap.size := by simp
 generalize hE1 : (w.alloc (.cells #[.bool b, .slice A n c, .slice D m e] 24)) = w1 at p1 bw1 lw1 x1a ⊢
 clear hE1
 replace h := h.keep p1
 have cx1a := x1a.c3
 have lx1a := lts0 x1a.lt
 go_cut [3, 4] (fun s3 s4 wx => ∃ g3 g4, s3 = .pointer (some ⟨g3, 0, none⟩) ∧ s4 = .pointer (some ⟨g4, 0, none⟩) ∧ Blk wx g3 77 #[.bool false, .slice A n c] ∧ Blk wx g4 77 #[.bool false, .slice D m e] ∧ Blk wx w.heap.size 24 #[.bool b, .slice A n c, .slice D m e] ∧ Below w1.heap.size w1 wx)
 case first =>
  go_region_held3 (fun w' => Sees w1.heap.size w1 w') (first | exact Sees.of (Nat.le_refl _) (below_drewN (brefl _) 1) | exact Sees.of (Nat.le_refl _) ((below_drewN (brefl _) 1).alloc (Nat.le_refl _) _) | exact Sees.of (Nat.le_refl _) (((below_drewN (brefl _) 1).alloc (Nat.le_refl _) _).alloc (by simp) _) | exact Sees.of (Nat.le_refl _) ((((below_drewN (brefl _) 1).alloc (Nat.le_refl _) _).alloc (by simp) _).setCell (by simp) _)) (fail)
  all_goals
   go_wp2_with fail
   go_meet
   first
    | exact ⟨_, _, rfl, rfl, ((blkAt _ _ _ rfl).alloc _).drew, (blkAt _ _ _ (by simp)).drew, ((x1a.alloc _).alloc _).drew, ((((Below.refl _ _).alloc (Nat.le_refl _) _).alloc (by simp) _).drew)⟩
    | exact ⟨_, _, rfl, rfl, (blkAt _ _ _ (by simp)).drew, ((blkAt _ _ _ rfl).alloc _).drew, ((x1a.alloc _).alloc _).drew, ((((Below.refl _ _).alloc (Nat.le_refl _) _).alloc (by simp) _).drew)⟩
 case rest =>
  clear cx1a lx1a
  obtain ⟨g3, g4, rfl, rfl, y3, y4, y1, q1⟩ := hcut
  replace h := h.belw q1
  have bwc : Below w.heap.size w wc := bw1.trans (q1.mono bw1.size)
  clear x1a bw1
  have cy1_0 : wc.cell? ⟨w.heap.size, 0, none⟩ = some (.bool b) := y1.cell 0
  have cy1_1 : wc.cell? ⟨w.heap.size, 1, none⟩ = some (.slice A n c) := y1.cell 1
  have cy1_2 : wc.cell? ⟨w.heap.size, 2, none⟩ = some (.slice D m e) := y1.cell 2
  have ly1 := lts0 y1.lt
  go_wp2
  go_ret
  exact retB HR.out.symm bwc
theorem f_valid_3 (w : World) (b A n c D m e a k) (h : QD w b A n c D m e a k) (hk : k ≤ 300000000) (h1 : 0 < n) (h2 : 0 < m) (h3 : WD.ok ⟨false, a.num⟩ = false) :
  Calls Tryz.prog 76 #[.agg #[.bool b, .slice A n c, .slice D m e]] w (RetV w (.bool a.ok)) := by
 have HR := Lib.hid (ok_3 h h1 h2 h3)
 have HK := Lib.hid hk
 have H3 := Lib.hid h3
 have e1 : ((n : Int) == 0) = false := by simp; omega
 have e2 : ((m : Int) == 0) = false := by simp; omega
 clear h1 h2 hk h3
 go_enter Tryz.func76, Tryz.ntmps76
 go_wp2_with fail
 have p1 := ((Kp.refl w).alloc (.cells #[.bool b, .slice A n c, .slice D m e] 24))
 have bw1 := ((brefl w).alloc (by first | omega | (simp <;> omega)) (.cells #[.bool b, .slice A n c, .slice D m e] 24))
 have x1a : Blk (w.alloc (.cells #[.bool b, .slice A n c, .slice D m e] 24)) w.heap.size 24 #[.bool b, .slice A n c, .slice D m e] := (blkAt _ _ _ (by simp))
 have lw1 : w.heap.size + 1 ≤ (w.alloc (.cells #[.bool b, .slice A n c, .slice D m e] 24)).heap.size := by simp
 generalize hE1 : (w.alloc (.cells #[.bool b, .slice A n c, .slice D m e] 24)) = w1 at p1 bw1 lw1 x1a ⊢
 clear hE1
 replace h := h.keep p1
 have cx1a := x1a.c3
 have lx1a := lts0 x1a.lt
 go_cut [3, 4] (fun s3 s4 wx => ∃ g3 g4, s3 = .pointer (some ⟨g3, 0, none⟩) ∧ s4 = .pointer (some ⟨g4, 0, none⟩) ∧ Blk wx g3 77 #[.bool false, .slice A n c] ∧ Blk wx g4 77 #[.bool false, .slice D m e] ∧ Blk wx w.heap.size 24 #[.bool b, .slice A n c, .slice D m e] ∧ Below w1.heap.size w1 wx)
 case first =>
  go_region_held3 (fun w' => Sees w1.heap.size w1 w') (first | exact Sees.of (Nat.le_refl _) (below_drewN (brefl _) 1) | exact Sees.of (Nat.le_refl _) ((below_drewN (brefl _) 1).alloc (Nat.le_refl _) _) | exact Sees.of (Nat.le_refl _) (((below_drewN (brefl _) 1).alloc (Nat.le_refl _) _).alloc (by simp) _) | exact Sees.of (Nat.le_refl _) ((((below_drewN (brefl _) 1).alloc (Nat.le_refl _) _).alloc (by simp) _).setCell (by simp) _)) (fail)
  all_goals
   go_wp2_with fail
   go_meet
   first
    | exact ⟨_, _, rfl, rfl, ((blkAt _ _ _ rfl).alloc _).drew, (blkAt _ _ _ (by simp)).drew, ((x1a.alloc _).alloc _).drew, ((((Below.refl _ _).alloc (Nat.le_refl _) _).alloc (by simp) _).drew)⟩
    | exact ⟨_, _, rfl, rfl, (blkAt _ _ _ (by simp)).drew, ((blkAt _ _ _ rfl).alloc _).drew, ((x1a.alloc _).alloc _).drew, ((((Below.refl _ _).alloc (Nat.le_refl _) _).alloc (by simp) _).drew)⟩
 case rest =>
  clear cx1a lx1a
  obtain ⟨g3, g4, rfl, rfl, y3, y4, y1, q1⟩ := hcut
  replace h := h.belw q1
  have bwc : Below w.heap.size w wc := bw1.trans (q1.mono bw1.size)
  clear x1a bw1
  have cy1_0 : wc.cell? ⟨w.heap.size, 0, none⟩ = some (.bool b) := y1.cell 0
  have cy1_1 : wc.cell? ⟨w.heap.size, 1, none⟩ = some (.slice A n c) := y1.cell 1
  have cy1_2 : wc.cell? ⟨w.heap.size, 2, none⟩ = some (.slice D m e) := y1.cell 2
  have ly1 := lts0 y1.lt
  have cy3_0 : wc.cell? ⟨g3, 0, none⟩ = some (.bool false) := y3.cell 0
  have cy3_1 : wc.cell? ⟨g3, 1, none⟩ = some (.slice A n c) := y3.cell 1
  have ly3 := lts0 y3.lt
  go_wp2_with fail
  (with_reducible refine (i_valid_e _ false A n c false a.num  ?_ ?_ ?_).mono ?_); (exact h.2.1); (exact H3.out); (have := h.2.2.2.1; have := HK.out; omega); rintro e w7 ⟨rfl, q7⟩
  clear cy1_0 cy1_1 cy1_2 ly1 cy3_0 cy3_1 ly3
  replace h := h.belw q7
  replace y1 := y1.b q7
  replace y3 := y3.b q7
  replace y4 := y4.b q7
  have bw7 := bwc.trans (q7.mono bwc.size)
  have lw7 := q7.size
  clear q7
  have cy4 := y4.c2
  have ly4 := lts0 y4.lt
  go_wp2_with fail
  go_wp2_with fail
  go_ret
  exact retB HR.out.symm bw7
theorem f_valid_4 (w : World) (b A n c D m e a k) (h : QD w b A n c D m e a k) (hk : k ≤ 300000000) (h1 : 0 < n) (h2 : 0 < m) (h3 : WD.ok ⟨false, a.num⟩ = true) (h4 : WD.ok ⟨false, a.den⟩ = false) :
  Calls Tryz.prog 76 #[.agg #[.bool b, .slice A n c, .slice D m e]] w (RetV w (.bool a.ok)) := by
 have HR := Lib.hid (ok_4 h h1 h2 h3 h4)
 have HK := Lib.hid hk
 have H3 := Lib.hid h3
 have e1 : ((n : Int) == 0) = false := by simp; omega
 have e2 : ((m : Int) == 0) = false := by simp; omega
 have H4 := Lib.hid h4
 clear h4
 clear h1 h2 hk h3
 go_enter Tryz.func76, Tryz.ntmps76
 go_wp2_with fail
 have p1 := ((Kp.refl w).alloc (.cells #[.bool b, .slice A n c, .slice D m e] 24))
 have bw1 := ((brefl w).alloc (by first | omega | (simp <;> omega)) (.cells #[.bool b, .slice A n c, .slice D m e] 24))
 have x1a : Blk (w.alloc (.cells #[.bool b, .slice A n c, .slice D m e] 24)) w.heap.size 24 #[.bool b, .slice A n c, .slice D m e] := (blkAt _ _ _ (by simp))
 have lw1 : w.heap.size + 1 ≤ (w.alloc (.cells #[.bool b, .slice A n c, .slice D m e] 24)).heap.size := by simp
 generalize hE1 : (w.alloc (.cells #[.bool b, .slice A n c, .slice D m e] 24)) = w1 at p1 bw1 lw1 x1a ⊢
 clear hE1
 replace h := h.keep p1
 have cx1a := x1a.c3
 have lx1a := lts0 x1a.lt
 go_cut [3, 4] (fun s3 s4 wx => ∃ g3 g4, s3 = .pointer (some ⟨g3, 0, none⟩) ∧ s4 = .pointer (some ⟨g4, 0, none⟩) ∧ Blk wx g3 77 #[.bool false, .slice A n c] ∧ Blk wx g4 77 #[.bool false, .slice D m e] ∧ Blk wx w.heap.size 24 #[.bool b, .slice A n c, .slice D m e] ∧ Below w1.heap.size w1 wx)
 case first =>
  go_region_held3 (fun w' => Sees w1.heap.size w1 w') (first | exact Sees.of (Nat.le_refl _) (below_drewN (brefl _) 1) | exact Sees.of (Nat.le_refl _) ((below_drewN (brefl _) 1).alloc (Nat.le_refl _) _) | exact Sees.of (Nat.le_refl _) (((below_drewN (brefl _) 1).alloc (Nat.le_refl _) _).alloc (by simp) _) | exact Sees.of (Nat.le_refl _) ((((below_drewN (brefl _) 1).alloc (Nat.le_refl _) _).alloc (by simp) _).setCell (by simp) _)) (fail)
  all_goals
   go_wp2_with fail
   go_meet
   first
    | exact ⟨_, _, rfl, rfl, ((blkAt _ _ _ rfl).alloc _).drew, (blkAt _ _ _ (by simp)).drew, ((x1a.alloc _).alloc _).drew, ((((Below.refl _ _).alloc (Nat.le_refl _) _).alloc (by simp) _).drew)⟩
    | exact ⟨_, _, rfl, rfl, (blkAt _ _ _ (by simp)).drew, ((blkAt _ _ _ rfl).alloc _).drew, ((x1a.alloc _).alloc _).drew, ((((Below.refl _ _).alloc (Nat.le_refl _) _).alloc (by simp) _).drew)⟩
 case rest =>
  clear cx1a lx1a
  obtain ⟨g3, g4, rfl, rfl, y3, y4, y1, q1⟩ := hcut
  replace h := h.belw q1
  have bwc : Below w.heap.size w wc := bw1.trans (q1.mono bw1.size)
  clear x1a bw1
  have cy1 := y1.c3
  have ly1 := lts0 y1.lt
  have cy3 := y3.c2
  have ly3 := lts0 y3.lt
  go_wp2_with fail
  (with_reducible refine (i_valid_e _ false A n c true a.num  ?_ ?_ ?_).mono ?_); (exact h.2.1); (exact H3.out); (have := h.2.2.2.1; have := HK.out; omega); rintro e w7 ⟨rfl, q7⟩
  clear cy1 ly1 cy3 ly3
  replace h := h.belw q7
  replace y1 := y1.b q7
  replace y3 := y3.b q7
  replace y4 := y4.b q7
  have bw7 := bwc.trans (q7.mono bwc.size)
  have lw7 := q7.size
  clear q7
  have cy4 := y4.c2
  have ly4 := lts0 y4.lt
  go_wp2_with fail
  (with_reducible refine (i_valid_e _ false D m e false a.den  ?_ ?_ ?_).mono ?_); (exact h.2.2.1); (exact H4.out); (have := h.2.2.2.2; have := HK.out; omega); rintro e w8 ⟨rfl, q8⟩
  clear cy4 ly4
  replace h := h.belw q8
  replace y1 := y1.b q8
  replace y3 := y3.b q8
  replace y4 := y4.b q8
  have bw8 := bw7.trans (q8.mono bw7.size)
  have lw8 := q8.size
  clear q8 bw7
  go_wp2_with fail
  go_wp2_with fail
  go_ret
  exact retB HR.out.symm bw8
theorem f_valid_5 (w : World) (b A n c D m e a k) (h : QD w b A n c D m e a k) (hk : k ≤ 300000000) (h1 : 0 < n) (h2 : 0 < m) (h3 : WD.ok ⟨false, a.num⟩ = true) (h4 : WD.ok ⟨false, a.den⟩ = true) :
  Calls Tryz.prog 76 #[.agg #[.bool b, .slice A n c, .slice D m e]] w (RetV w (.bool a.ok)) := by
 have HR := Lib.hid (ok_5 h h1 h2 h3 h4)
 have HK := Lib.hid hk
 have H3 := Lib.hid h3
 have e1 : ((n : Int) == 0) = false := by simp; omega
 have e2 : ((m : Int) == 0) = false := by simp; omega
 have H4 := Lib.hid h4
 clear h4
 clear h1 h2 hk h3
 go_enter Tryz.func76, Tryz.ntmps76
 go_wp2_with fail
 have p1 := ((Kp.refl w).alloc (.cells #[.bool b, .slice A n c, .slice D m e] 24))
 have bw1 := ((brefl w).alloc (by first | omega | (simp <;> omega)) (.cells #[.bool b, .slice A n c, .slice D m e] 24))
 have x1a : Blk (w.alloc (.cells #[.bool b, .slice A n c, .slice D m e] 24)) w.heap.size 24 #[.bool b, .slice A n c, .slice D m e] := (blkAt _ _ _ (by simp))
 have lw1 : w.heap.size + 1 ≤ (w.alloc (.cells #[.bool b, .slice A n c, .slice D m e] 24)).heap.size := by simp
 generalize hE1 : (w.alloc (.cells #[.bool b, .slice A n c, .slice D m e] 24)) = w1 at p1 bw1 lw1 x1a ⊢
 clear hE1
 replace h := h.keep p1
 have cx1a := x1a.c3
 have lx1a := lts0 x1a.lt
 go_cut [3, 4] (fun s3 s4 wx => ∃ g3 g4, s3 = .pointer (some ⟨g3, 0, none⟩) ∧ s4 = .pointer (some ⟨g4, 0, none⟩) ∧ Blk wx g3 77 #[.bool false, .slice A n c] ∧ Blk wx g4 77 #[.bool false, .slice D m e] ∧ Blk wx w.heap.size 24 #[.bool b, .slice A n c, .slice D m e] ∧ Below w1.heap.size w1 wx)
 case first =>
  go_region_held3 (fun w' => Sees w1.heap.size w1 w') (first | exact Sees.of (Nat.le_refl _) (below_drewN (brefl _) 1) | exact Sees.of (Nat.le_refl _) ((below_drewN (brefl _) 1).alloc (Nat.le_refl _) _) | exact Sees.of (Nat.le_refl _) (((below_drewN (brefl _) 1).alloc (Nat.le_refl _) _).alloc (by simp) _) | exact Sees.of (Nat.le_refl _) ((((below_drewN (brefl _) 1).alloc (Nat.le_refl _) _).alloc (by simp) _).setCell (by simp) _)) (fail)
  all_goals
   go_wp2_with fail
   go_meet
   first
    | exact ⟨_, _, rfl, rfl, ((blkAt _ _ _ rfl).alloc _).drew, (blkAt _ _ _ (by simp)).drew, ((x1a.alloc _).alloc _).drew, ((((Below.refl _ _).alloc (Nat.le_refl _) _).alloc (by simp) _).drew)⟩
    | exact ⟨_, _, rfl, rfl, (blkAt _ _ _ (by simp)).drew, ((blkAt _ _ _ rfl).alloc _).drew, ((x1a.alloc _).alloc _).drew, ((((Below.refl _ _).alloc (Nat.le_refl _) _).alloc (by simp) _).drew)⟩
 case rest =>
  clear cx1a lx1a
  obtain ⟨g3, g4, rfl, rfl, y3, y4, y1, q1⟩ := hcut
  replace h := h.belw q1
  have bwc : Below w.heap.size w wc := bw1.trans (q1.mono bw1.size)
  clear x1a bw1
  have cy1 := y1.c3
  have ly1 := lts0 y1.lt
  obtain ⟨cy3_0, cy3_1⟩ := y3.c2
  obtain ⟨ly3_0, ly3_1, ly3_2, ly3_3⟩ := lts0 y3.lt
  go_wp2_with fail
  (with_reducible refine (i_valid_e _ false A n c true a.num  ?_ ?_ ?_).mono ?_); (exact h.2.1); (exact H3.out); (have := h.2.2.2.1; have := HK.out; omega); rintro e w7 ⟨rfl, q7⟩
  clear cy1 ly1 cy3_0 cy3_1 ly3_0 ly3_1 ly3_2 ly3_3
  replace h := h.belw q7
  replace y1 := y1.b q7
  replace y3 := y3.b q7
  replace y4 := y4.b q7
  have bw7 := bwc.trans (q7.mono bwc.size)
  have lw7 := q7.size
  clear q7
  obtain ⟨cy4_0, cy4_1⟩ := y4.c2
  obtain ⟨ly4_0, ly4_1, ly4_2, ly4_3⟩ := lts0 y4.lt
  go_wp2_with fail
  (with_reducible refine (i_valid_e _ false D m e true a.den  ?_ ?_ ?_).mono ?_); (exact h.2.2.1); (exact H4.out); (have := h.2.2.2.2; have := HK.out; omega); rintro e w8 ⟨rfl, q8⟩
  clear cy4_0 cy4_1 ly4_0 ly4_1 ly4_2 ly4_3
  replace h := h.belw q8
  replace y1 := y1.b q8
  replace y3 := y3.b q8
  replace y4 := y4.b q8
  have bw8 := bw7.trans (q8.mono bw7.size)
  have lw8 := q8.size
  clear q8 bw7
  obtain ⟨cy3_0, cy3_1⟩ := y3.c2
  obtain ⟨ly3_0, ly3_1, ly3_2, ly3_3⟩ := lts0 y3.lt
  obtain ⟨cy4_0, cy4_1⟩ := y4.c2
  obtain ⟨ly4_0, ly4_1, ly4_2, ly4_3⟩ := lts0 y4.lt
  go_wp2_with fail
  have hN := h.num_z H3.out
  have hD := h.den_z H4.out
  obtain ⟨s, hs⟩ : ∃ s, cmpI ((Nat.gcd ((val a.num : Int)).natAbs ((val a.den : Int)).natAbs : Nat)) 1 = s := ⟨_, rfl⟩
  have HC := Lib.hid hs
  clear hs
  (with_reducible refine (i_gcd _ false A n c ((val a.num : Int)) (k) ?_ false D m e ((val a.den : Int)) (k) ?_ ?_).mono ?_); (exact hN); (exact hD); (have := HK.out; omega); rintro e w9 ⟨b9, A9, n9, c9, rfl, h9, q9⟩
  clear cy3_0 cy3_1 ly3_0 ly3_1 ly3_2 ly3_3 cy4_0 cy4_1 ly4_0 ly4_1 ly4_2 ly4_3
  replace h := h.belw q9
  replace hN := hN.belw q9
  replace hD := hD.belw q9
  replace y1 := y1.b q9
  replace y3 := y3.b q9
  replace y4 := y4.b q9
  have bw9 := bw8.trans (q9.mono bw8.size)
  have lw9 := q9.size
  clear q9 bw8
  go_wp2_with fail
  (with_reducible refine (f_one _).mono ?_); rintro e w10 ⟨b10, A10, n10, c10, rfl, h10, q10⟩
  replace h := h.belw q10
  replace hN := hN.belw q10
  replace hD := hD.belw q10
  replace h9 := h9.belw q10
  replace y1 := y1.b q10
  replace y3 := y3.b q10
  replace y4 := y4.b q10
  have bw10 := bw9.trans (q10.mono bw9.size)
  have lw10 := q10.size
  clear q10 bw9
  go_wp2_with fail
  (with_reducible refine (i_cmp_e _ b9 A9 n9 c9 ((Nat.gcd (((val a.num : Int))).natAbs (((val a.den : Int))).natAbs : Nat)) ((k) + (k)) ?_ b10 A10 n10 c10 (1) (1) ?_ s ?_ ?_).mono ?_); (exact h9.iz); (exact h10.iz); (exact HC.out); (have := HK.out; omega); rintro e w11 ⟨rfl, q11⟩
  replace h := h.belw q11
  replace hN := hN.belw q11
  replace hD := hD.belw q11
  replace h9 := h9.belw q11
  replace h10 := h10.belw q11
  replace y1 := y1.b q11
  replace y3 := y3.b q11
  replace y4 := y4.b q11
  have bw11 := bw10.trans (q11.mono bw10.size)
  have lw11 := q11.size
  clear q11 bw10
  go_wp2_with fail
  go_ret
  exact retB (ok_last HC.out HR.out) bw11
theorem f_valid (w : World) (b A n c D m e a k) (h : QD w b A n c D m e a k) (hk : k ≤ 300000000) : Calls Tryz.prog 76 #[.agg #[.bool b, .slice A n c, .slice D m e]] w (RetV w (.bool a.ok)) := by
  rcases Nat.eq_zero_or_pos n with h1 | h1 <;> rcases Nat.eq_zero_or_pos m with h2 | h2
  · exact f_valid_0 w b A n c D m e a k h hk h1 h2
  · exact f_valid_1 w b A n c D m e a k h hk h1 h2
  · exact f_valid_2 w b A n c D m e a k h hk h1 h2
  · cases h3 : WD.ok ⟨false, a.num⟩
    · exact f_valid_3 w b A n c D m e a k h hk h1 h2 h3
    · cases h4 : WD.ok ⟨false, a.den⟩
      · exact f_valid_4 w b A n c D m e a k h hk h1 h2 h3 h4
      · exact f_valid_5 w b A n c D m e a k h hk h1 h2 h3 h4
end Go.Proofs.YtianjkiakkclgaaGreatDoor

/- Walks: fractions: the parts. -/
namespace Go.Proofs.YtianjkiakkclgaaGreatDoor
open Go Go.RowKit Bn
attribute [local go_sem ↓] Go.wp_at_zero Go.wp_at_succ

section
variable {w : World} {b : Bool} {A : Option Addr} {n c : Nat} {D : Option Addr} {m e : Nat} {a : RD} {k : Nat}
theorem q_bad (h : a.ok = false ∨ a.num = []) : a.q.num = 0 ∧ (a.q.den : Int) = 1 := by
  have e1 : (a.ok && a.num != []) = false := by rcases h with h | h <;> simp [h]
  have e2 : a.q = 0 := by unfold RD.q RD.n RD.d; rw [e1]; simp
  rw [e2]; exact ⟨rfl, rfl⟩
theorem q_ok (hn : Wds a.num) (hd : Wds a.den) (ho : a.ok = true) (h0 : a.num ≠ []) : a.num = (wh a.q.num).mag ∧ a.neg = (wh a.q.num).neg ∧ a.den = (wh (a.q.den : Int)).mag := by
  have h1 := rd_of_ok hn hd ho
  have h2 : a.q.num ≠ 0 := by
    intro e
    have : (rd a.q).num = [] := by unfold rd; simp [e, digs_zero]
    rw [h1] at this; exact h0 this
  have h3 : (rd a.q).den = digs a.q.den := by unfold rd; simp [h2]
  refine ⟨?_, ?_, ?_⟩
  · have : (rd a.q).num = digs a.q.num.natAbs := rfl
    rw [h1] at this; exact this
  · have : (rd a.q).neg = decide (a.q.num < 0) := rfl
    rw [h1] at this; exact this
  · rw [h1] at h3; exact h3
theorem den_pos_ (h : QD w b A n c D m e a k) (ho : a.ok = true) (h0 : a.num ≠ []) : 0 < m := by
  rcases Nat.eq_zero_or_pos m with h1 | h1
  · have e2 : a.den = [] := List.eq_nil_of_length_eq_zero (by rw [← h.2.2.1.2.1, h1])
    unfold RD.ok at ho
    rw [if_neg (by intro x; exact h0 x.1)] at ho
    simp [e2] at ho
  · exact h1
end
abbrev SeesY (G g2 g3 : Nat) (v0 v1 : Value) (W0 W : World) : Prop := ((∀ b o, b < G → b ≠ g2 → b ≠ g3 → W.cell? ⟨b, o, none⟩ = W0.cell? ⟨b, o, none⟩) ∧ (∀ b o, b < G → W.frozen? ⟨b, o, none⟩ = W0.frozen? ⟨b, o, none⟩)) ∧ G ≤ W.heap.size ∧ W.cell? ⟨g2, 0, none⟩ = some v0 ∧ W.cell? ⟨g2, 1, none⟩ = some v1
theorem SeesY.of {G g2 g3 : Nat} {v0 v1 : Value} {W0 W : World} (h : G ≤ W0.heap.size) (hb : Below W0.heap.size W0 W) (hg : g2 < W0.heap.size) (h0 : W0.cell? ⟨g2, 0, none⟩ = some v0) (h1 : W0.cell? ⟨g2, 1, none⟩ = some v1) : SeesY G g2 g3 v0 v1 W0 W :=
  ⟨⟨fun b o hlt _ _ => (bcell hb).1 b o (Nat.lt_of_lt_of_le hlt h), fun b o hlt => (bcell hb).2 b o (Nat.lt_of_lt_of_le hlt h)⟩, Nat.le_trans h hb.size, ((bcell hb).1 _ _ hg).trans h0, ((bcell hb).1 _ _ hg).trans h1⟩
theorem cell_set_same {w : World} {p : Addr} {u : Value} (v : Value) (h : w.cell? p = some u) (hp : p.spot = none) : (w.setCell p v).cell? p = some v := by
  obtain ⟨b, o, s⟩ := p
  simp only at hp; subst hp
  unfold World.cell? at h ⊢
  simp only [World.setCell, Array.getElem?_modify, if_true] at h ⊢
  cases hh : w.heap[b]? with
  | none => rw [hh] at h; simp at h
  | some ob =>
    rw [hh] at h
    cases ob <;> simp_all
    obtain ⟨hl, _⟩ := Array.getElem?_eq_some_iff.1 h
    simp [hl]
theorem SeesY.set2 {G g2 g3 : Nat} {v0 v1 : Value} {W0 W : World} (h : SeesY G g2 g3 v0 v1 W0 W) {i : Nat} {u : Value} (hi : (i = 0 ∧ u = v0) ∨ (i = 1 ∧ u = v1)) : SeesY G g2 g3 v0 v1 W0 (W.setCell ⟨g2, i, none⟩ u) := by
  refine ⟨⟨fun b o hlt hne h3 => ?_, fun b o hlt => ?_⟩, ?_, ?_, ?_⟩
  · rw [← h.1.1 b o hlt hne h3]; unfold World.cell?; rw [Below.heap_setCell _ _ _ b hne]
  · rw [← h.1.2 b o hlt]; exact World.frozen?_setCell ..
  · have := h.2.1; simp [World.setCell]; exact this
  · rcases hi with ⟨rfl, rfl⟩ | ⟨rfl, rfl⟩
    · exact cell_set_same _ h.2.2.1 rfl
    · rw [World.cell?_setCell_other _ _ _ _ (by simp)]; exact h.2.2.1
  · rcases hi with ⟨rfl, rfl⟩ | ⟨rfl, rfl⟩
    · rw [World.cell?_setCell_other _ _ _ _ (by simp)]; exact h.2.2.2
    · exact cell_set_same _ h.2.2.2 rfl
theorem SeesY.set3 {G g2 g3 : Nat} {v0 v1 : Value} {W0 W : World} (h : SeesY G g2 g3 v0 v1 W0 W) {i : Nat} {u : Value} (hg : g2 ≠ g3) : SeesY G g2 g3 v0 v1 W0 (W.setCell ⟨g3, i, none⟩ u) := by
  refine ⟨⟨fun b o hlt hne h3 => ?_, fun b o hlt => ?_⟩, ?_, ?_, ?_⟩
  · rw [← h.1.1 b o hlt hne h3]; unfold World.cell?; rw [Below.heap_setCell _ _ _ b h3]
  · rw [← h.1.2 b o hlt]; exact World.frozen?_setCell ..
  · have := h.2.1; simp [World.setCell]; exact this
  · rw [World.cell?_setCell_other _ _ _ _ (by simp <;> omega)]; exact h.2.2.1
  · rw [World.cell?_setCell_other _ _ _ _ (by simp <;> omega)]; exact h.2.2.2
theorem f_valid_e (w : World) (b : Bool) (A : Option Addr) (n c : Nat) (D : Option Addr) (m e : Nat) (a : RD) (k : Nat) (v : Bool) (h : QD w b A n c D m e a k) (hk : k ≤ 300000000) (hv : a.ok = v) :
    Calls Tryz.prog 76 #[.agg #[.bool b, .slice A n c, .slice D m e]] w (RetV w (.bool v)) := by subst hv; exact f_valid w b A n c D m e a k h hk
theorem f_parts_1 (w : World) (b A n c D m e a k) (h : QD w b A n c D m e a k) (h0 : 0 < k) (hk : k ≤ 300000000) (ho : a.ok = false) :
  Calls Tryz.prog 48 #[.agg #[.bool b, .slice A n c, .slice D m e]] w (RetII w a.q.num a.q.den k) := by
 have HK := Lib.hid hk
 have HO := Lib.hid ho
 have hq : a.q.num = 0 ∧ (a.q.den : Int) = 1 := q_bad (.inl ho)
 rw [hq.1, hq.2]
 clear hq ho
 have HP := Lib.hid h0
 go_enter Tryz.func48, Tryz.ntmps48
 go_wp2_with fail
 (with_reducible refine (f_valid_e _ b A n c D m e a k false ?_ ?_ ?_).mono ?_); (exact h.belw (((((Below.refl _ _).alloc (Nat.le_refl _) _).alloc (by simp) _).alloc (by simp <;> omega) _))); (exact HK.out); (exact HO.out); rintro e w1 ⟨rfl, hb1⟩
 have q1 := hb1.q3
 replace h := h.belw q1
 have x1a : Blk w1 w.heap.size 24 #[.bool b, .slice A n c, .slice D m e] := (((blkAt _ _ _ (by simp)).alloc _).alloc _).below hb1 (by simp <;> omega)
 have x1b := ((blkAt _ _ _ (g := w.heap.size + 1) (by simp)).alloc _).below hb1 (by simp <;> omega)
 have x1c := (blkAt _ _ _ (g := w.heap.size + 1 + 1) (by simp)).below hb1 (by simp)
 have bw1 := (brefl w).trans (q1.mono (brefl w).size)
 have lw1 := hb1.l3
 clear q1
 have cx1a := x1a.c3
 have lx1a := lts0 x1a.lt
 go_wp2_with fail
 (with_reducible refine (f_one _).mono ?_); rintro e w2 ⟨b2, A2, n2, c2, rfl, h2, q2⟩
 clear cx1a lx1a
 replace h := h.belw q2
 replace x1a := x1a.b q2
 replace x1b := x1b.b q2
 replace x1c := x1c.b q2
 have bw2 := bw1.trans (q2.mono bw1.size)
 have lw2 := q2.size
 clear q2 bw1
 have cx1b := x1b.c2
 have fx1b := x1b.f2
 have lx1b := lts1 x1b.lt
 have cx1c := x1c.c2
 have fx1c := x1c.f2
 have lx1c := lts2 x1c.lt
 go_wp2_with fail
 refine bodyPost_ret (v := .tuple #[.agg #[.bool false, .slice none 0 0], .agg #[.bool b2, .slice A2 n2 c2]]) (by simp [results, Tryz.results48, go_sem, *] <;> trivial) rfl ?_
 exact ⟨false, none, 0, 0, b2, A2, n2, c2, rfl, IV.zero _ _, (h2.keep (((((Kp.refl w2).sb (w.heap.size + 1) 0 x1b.box (by decide) (.bool false)).sb (w.heap.size + 1) 1 (x1b.box.set ⟨w.heap.size + 1, 0, none⟩ (.bool false)) (by decide) (.slice none 0 0)).sb (w.heap.size + 1 + 1) 0 ((x1c.box.set ⟨w.heap.size + 1, 0, none⟩ (.bool false)).set ⟨w.heap.size + 1, 1, none⟩ (.slice none 0 0)) (by decide) (.bool b2)).sb (w.heap.size + 1 + 1) 1 (((x1c.box.set ⟨w.heap.size + 1, 0, none⟩ (.bool false)).set ⟨w.heap.size + 1, 1, none⟩ (.slice none 0 0)).set ⟨w.heap.size + 1 + 1, 0, none⟩ (.bool b2)) (by decide) (.slice A2 n2 c2))).mono (by first | exact HP.out | omega), ((((bw2.sc (w.heap.size + 1) 0 (by omega) (.bool false)).sc (w.heap.size + 1) 1 (by omega) (.slice none 0 0)).sc (w.heap.size + 1 + 1) 0 (by omega) (.bool b2)).sc (w.heap.size + 1 + 1) 1 (by omega) (.slice A2 n2 c2))⟩
theorem f_parts_2 (w : World) (b A n c D m e a k) (h : QD w b A n c D m e a k) (h0 : 0 < k) (hk : k ≤ 300000000) (ho : a.ok = true) (hn : n = 0) :
  Calls Tryz.prog 48 #[.agg #[.bool b, .slice A n c, .slice D m e]] w (RetII w a.q.num a.q.den k) := by
 have HK := Lib.hid hk
 have HO := Lib.hid ho
 have hq : a.q.num = 0 ∧ (a.q.den : Int) = 1 := q_bad (.inr (List.eq_nil_of_length_eq_zero (by rw [← h.2.1.2.1, hn])))
 rw [hq.1, hq.2]
 clear hq ho
 subst hn
 have HP := Lib.hid h0
 go_enter Tryz.func48, Tryz.ntmps48
 go_wp2_with fail
 (with_reducible refine (f_valid_e _ b A 0 c D m e a k true ?_ ?_ ?_).mono ?_); (exact h.belw (((((Below.refl _ _).alloc (Nat.le_refl _) _).alloc (by simp) _).alloc (by simp <;> omega) _))); (exact HK.out); (exact HO.out); rintro e w1 ⟨rfl, hb1⟩
 have q1 := hb1.q3
 replace h := h.belw q1
 have x1a : Blk w1 w.heap.size 24 #[.bool b, .slice A 0 c, .slice D m e] := (((blkAt _ _ _ (by simp)).alloc _).alloc _).below hb1 (by simp <;> omega)
 have x1b := ((blkAt _ _ _ (g := w.heap.size + 1) (by simp)).alloc _).below hb1 (by simp <;> omega)
 have x1c := (blkAt _ _ _ (g := w.heap.size + 1 + 1) (by simp)).below hb1 (by simp)
 have bw1 := (brefl w).trans (q1.mono (brefl w).size)
 have lw1 := hb1.l3
 clear q1
 have cx1a := x1a.c3
 have lx1a := lts0 x1a.lt
 go_wp2_with fail
 (with_reducible refine (f_one _).mono ?_); rintro e w2 ⟨b2, A2, n2, c2, rfl, h2, q2⟩
 clear cx1a lx1a
 replace h := h.belw q2
 replace x1a := x1a.b q2
 replace x1b := x1b.b q2
 replace x1c := x1c.b q2
 have bw2 := bw1.trans (q2.mono bw1.size)
 have lw2 := q2.size
 clear q2 bw1
 have cx1b := x1b.c2
 have fx1b := x1b.f2
 have lx1b := lts1 x1b.lt
 have cx1c := x1c.c2
 have fx1c := x1c.f2
 have lx1c := lts2 x1c.lt
 go_wp2_with fail
 refine bodyPost_ret (v := .tuple #[.agg #[.bool false, .slice none 0 0], .agg #[.bool b2, .slice A2 n2 c2]]) (by simp [results, Tryz.results48, go_sem, *] <;> trivial) rfl ?_
 exact ⟨false, none, 0, 0, b2, A2, n2, c2, rfl, IV.zero _ _, (h2.keep (((((Kp.refl w2).sb (w.heap.size + 1) 0 x1b.box (by decide) (.bool false)).sb (w.heap.size + 1) 1 (x1b.box.set ⟨w.heap.size + 1, 0, none⟩ (.bool false)) (by decide) (.slice none 0 0)).sb (w.heap.size + 1 + 1) 0 ((x1c.box.set ⟨w.heap.size + 1, 0, none⟩ (.bool false)).set ⟨w.heap.size + 1, 1, none⟩ (.slice none 0 0)) (by decide) (.bool b2)).sb (w.heap.size + 1 + 1) 1 (((x1c.box.set ⟨w.heap.size + 1, 0, none⟩ (.bool false)).set ⟨w.heap.size + 1, 1, none⟩ (.slice none 0 0)).set ⟨w.heap.size + 1 + 1, 0, none⟩ (.bool b2)) (by decide) (.slice A2 n2 c2))).mono (by first | exact HP.out | omega), ((((bw2.sc (w.heap.size + 1) 0 (by omega) (.bool false)).sc (w.heap.size + 1) 1 (by omega) (.slice none 0 0)).sc (w.heap.size + 1 + 1) 0 (by omega) (.bool b2)).sc (w.heap.size + 1 + 1) 1 (by omega) (.slice A2 n2 c2))⟩
theorem f_parts_3 (w : World) (b A n c D m e a k) (h : QD w b A n c D m e a k) (h0 : 0 < k) (hk : k ≤ 300000000) (ho : a.ok = true) (hn : a.num ≠ []) :
  Calls Tryz.prog 48 #[.agg #[.bool b, .slice A n c, .slice D m e]] w (RetII w a.q.num a.q.den k) := by
 have HK := Lib.hid hk
 have HO := Lib.hid ho
 obtain ⟨e1, e2, e3⟩ := q_ok h.2.1.1 h.2.2.1.1 ho hn
 have HE := Lib.hid (And.intro e1 (And.intro e2 e3))
 have hnp : 0 < n := by rcases Nat.eq_zero_or_pos n with h1 | h1; exact absurd (List.eq_nil_of_length_eq_zero (by rw [← h.2.1.2.1, h1])) hn; exact h1
 have hmp : 0 < m := den_pos_ h ho hn
 have en : ((n : Int) == 0) = false := by simp; omega
 have hkn : n ≤ 300000000 := Nat.le_trans h.2.2.2.1 hk
 have hkm : m ≤ 300000000 := Nat.le_trans h.2.2.2.2 hk
 obtain ⟨i0, hi0, hz0, hz1, hz2⟩ := info_parts info_u32
 obtain ⟨gA, oA, eA, hlA, _⟩ := h.2.1.at2 hnp
 obtain ⟨gD, oD, eD, hlD, _⟩ := h.2.2.1.at2 hmp
 subst eA eD
 clear ho hn e1 e2 e3 hk
 go_enter Tryz.func48, Tryz.ntmps48
 go_wp2_with fail
 (with_reducible refine (f_valid_e _ b (some ⟨gA, oA, none⟩) n c (some ⟨gD, oD, none⟩) m e a k true ?_ ?_ ?_).mono ?_); (exact h.belw (((((Below.refl _ _).alloc (Nat.le_refl _) _).alloc (by simp) _).alloc (by simp <;> omega) _))); (exact HK.out); (exact HO.out); rintro e w1 ⟨rfl, hb1⟩
 have q1 := hb1.q3
 replace h := h.belw q1
 have x1a : Blk w1 w.heap.size 24 #[.bool b, .slice (some ⟨gA, oA, none⟩) n c, .slice (some ⟨gD, oD, none⟩) m e] := (((blkAt _ _ _ (by simp)).alloc _).alloc _).below hb1 (by simp <;> omega)
 have x1b := ((blkAt _ _ _ (g := w.heap.size + 1) (by simp)).alloc _).below hb1 (by simp <;> omega)
 have x1c := (blkAt _ _ _ (g := w.heap.size + 1 + 1) (by simp)).below hb1 (by simp)
 have bw1 := (brefl w).trans (q1.mono (brefl w).size)
 have lw1 := hb1.l3
 clear q1
 obtain ⟨cx1aa, cx1ab, cx1ac⟩ := x1a.c3
 obtain ⟨lx1aa, lx1ab, lx1ac, lx1ad⟩ := lts0 x1a.lt
 have cx1b := x1b.c2
 have fx1b := x1b.f2
 have lx1b := lts1 x1b.lt
 obtain ⟨cx1ca, cx1cb⟩ := x1c.c2
 obtain ⟨fx1ca, fx1cb⟩ := x1c.f2
 obtain ⟨lx1ca, lx1cb, lx1cc, lx1cd⟩ := lts2 x1c.lt
 go_wp2_with fail
 have howna := World.ownsRow_lit (e := 100) (size := 1) w1 #[] 0 (Nat.le_refl _) (by simp [maxLen]) rfl
 have hnewsa := ((h.2.1).keep ((Kp.refl w1).alloc (.cells #[] 100))).news (by omega) (Nat.le_refl _)
 have hnla : (words (a.num.take n)).length = n * 1 := by rw [words_len, List.length_take]; have := (h.2.1).2.1; omega
 have HOa := Lib.hid howna
 have HNa := Lib.hid hnewsa
 have HNLa := Lib.hid hnla
 clear howna hnewsa hnla
 have nf0 : ¬ w.heap.size = w.heap.size + 1 := by omega
 have nf2 : ¬ w.heap.size + 1 + 1 = w.heap.size + 1 := by omega
 have nfa : ¬ w1.heap.size = w.heap.size + 1 := by have := x1b.lt; omega
 go_region_held3 (fun w' => SeesX w1.heap.size (w.heap.size + 1) w1 w') (first | exact SeesX.of (Nat.le_refl _) (below_drewN (brefl _) 1) | exact SeesX.of (Nat.le_refl _) ((below_drewN (brefl _) 1).alloc (Nat.le_refl _) _) | exact SeesX.of (Nat.le_refl _) (((brefl _).alloc (Nat.le_refl _) _).drew) | exact SeesX.of (Nat.le_refl _) (by assumption) | exact SeesX.set (SeesX.of (Nat.le_refl _) (by assumption)) | exact SeesX.set (SeesX.set (SeesX.of (Nat.le_refl _) (by assumption)))) ((refine step_append_lies _ rfl _ _ _ rfl w1.heap.size 100 i0 (.int .u32 0) 1 4 Tryz.underlying22 hi0 hz0 hz1 hz2 rfl (by omega) _ 0 [] rfl (by first | exact HOa.out | exact HOa.out.drew) ⟨gA, oA, none⟩ n c (words (a.num.take n)) rfl HNLa.out HNa.out (words_one _) (by omega) (by unfold maxLen; omega) (by omega) (by simp) (w1.heap.size + 1) (by simp) ?_; intro ga capa va howna hgrowa hata hlta; have qa : Below w1.heap.size w1 va := (((Below.refl _ _).alloc (Nat.le_refl _) _).drew).grown hgrowa (by simp) (fun b hb => Nat.le_of_eq (Option.some.inj hb)); have y1 : Blk va (w.heap.size + 1) 77 #[.bool false, .slice none 0 0] := x1b.below qa x1b.lt; obtain ⟨cy10, cy11⟩ := y1.c2; obtain ⟨fy10, fy11⟩ := y1.f2))
 simp only [Nat.zero_add, List.nil_append] at howna
 have hwa : Wd va (some ⟨ga, 0, none⟩) n capa a.num := by
  have x := Wd.of_own howna (Wds.take (h.2.1).1 n)
  rwa [List.take_of_length_le (Nat.le_of_eq (h.2.1).2.1.symm)] at x
 clear howna hgrowa hata HOa HNa HNLa
 clear cx1aa cx1ab cx1ac lx1aa lx1ab lx1ac lx1ad cx1b fx1b lx1b cx1ca fx1ca cx1cb fx1cb lx1ca lx1cb lx1cc lx1cd
 clear cy10 cy11 fy10 fy11 nfa nf0 nf2
 replace x1a := x1a.b qa
 replace x1c := x1c.b qa
 replace h := h.belw qa
 have bwa : Below w.heap.size w va := bw1.trans (qa.mono bw1.size)
 have lwa : w1.heap.size ≤ va.heap.size := qa.size
 clear x1b
 go_wp2_with fail
 have p5 := (((Kp.refl va).sb (w.heap.size + 1) 0 y1.box (by decide) (.bool b)).sb (w.heap.size + 1) 1 (y1.box.set ⟨w.heap.size + 1, 0, none⟩ (.bool b)) (by decide) (.slice (some ⟨ga, 0, none⟩) n capa))
 have bw5 := ((bwa.sc (w.heap.size + 1) 0 (by omega) (.bool b)).sc (w.heap.size + 1) 1 (by omega) (.slice (some ⟨ga, 0, none⟩) n capa))
 replace x1a := ((x1a.fr (w.heap.size + 1) 0 (by omega) (.bool b)).fr (w.heap.size + 1) 1 (by omega) (.slice (some ⟨ga, 0, none⟩) n capa))
 replace y1 : Blk ((va.setCell ⟨w.heap.size + 1, 0, none⟩ (.bool b)).setCell ⟨w.heap.size + 1, 1, none⟩ (.slice (some ⟨ga, 0, none⟩) n capa)) (w.heap.size + 1) 77 #[.bool b, .slice (some ⟨ga, 0, none⟩) n capa] := ((y1.set_at 0 (.bool b) #[.bool b, .slice none 0 0] (by simp)).set_at 1 (.slice (some ⟨ga, 0, none⟩) n capa) #[.bool b, .slice (some ⟨ga, 0, none⟩) n capa] (by simp))
 replace x1c := ((x1c.fr (w.heap.size + 1) 0 (by omega) (.bool b)).fr (w.heap.size + 1) 1 (by omega) (.slice (some ⟨ga, 0, none⟩) n capa))
 have lw5 : va.heap.size + 0 ≤ ((va.setCell ⟨w.heap.size + 1, 0, none⟩ (.bool b)).setCell ⟨w.heap.size + 1, 1, none⟩ (.slice (some ⟨ga, 0, none⟩) n capa)).heap.size := by simp
 generalize hE5 : ((va.setCell ⟨w.heap.size + 1, 0, none⟩ (.bool b)).setCell ⟨w.heap.size + 1, 1, none⟩ (.slice (some ⟨ga, 0, none⟩) n capa)) = w5 at p5 bw5 lw5 x1a y1 x1c ⊢
 clear hE5
 replace h := h.keep p5
 replace hwa := hwa.keep p5
 obtain ⟨cx1aa, cx1ab, cx1ac⟩ := x1a.c3
 obtain ⟨lx1aa, lx1ab, lx1ac, lx1ad⟩ := lts0 x1a.lt
 obtain ⟨cy1_0, cy1_1⟩ := y1.c2
 have fy1 := y1.f2
 have ly1 := lts1 y1.lt
 obtain ⟨cx1ca, cx1cb⟩ := x1c.c2
 obtain ⟨fx1ca, fx1cb⟩ := x1c.f2
 obtain ⟨lx1ca, lx1cb, lx1cc, lx1cd⟩ := lts2 x1c.lt
 have hownd := World.ownsRow_lit (e := 100) (size := 1) w5 #[] 0 (Nat.le_refl _) (by simp [maxLen]) rfl
 have hnewsd := ((h.2.2.1).keep ((Kp.refl w5).alloc (.cells #[] 100))).news (by omega) (Nat.le_refl _)
 have hnld : (words (a.den.take m)).length = m * 1 := by rw [words_len, List.length_take]; have := (h.2.2.1).2.1; omega
 have HOd := Lib.hid hownd
 have HNd := Lib.hid hnewsd
 have HNLd := Lib.hid hnld
 clear hownd hnewsd hnld
 have nf0 : ¬ w.heap.size = w.heap.size + 1 := by omega
 have nf1 : ¬ w.heap.size = w.heap.size + 2 := by omega
 have nf2 : ¬ w.heap.size + 1 = w.heap.size + 1 + 1 := by omega
 have nf3 : ¬ w.heap.size = w.heap.size + 1 := by omega
 clear nf3
 go_region_held3 (fun w' => SeesY w5.heap.size (w.heap.size + 1) (w.heap.size + 1 + 1) (.bool b) (.slice (some ⟨ga, 0, none⟩) n capa) w5 w') (first | with_reducible exact SeesY.of (Nat.le_refl _) ((brefl _).drew) y1.lt cy1_0 cy1_1 | with_reducible exact SeesY.of (Nat.le_refl _) (((brefl _).alloc (Nat.le_refl _) _).drew) y1.lt cy1_0 cy1_1 | with_reducible exact SeesY.of (Nat.le_refl _) (by assumption) y1.lt cy1_0 cy1_1 | with_reducible exact (SeesY.set2 (SeesY.of (Nat.le_refl _) (by assumption) y1.lt cy1_0 cy1_1) (.inl ⟨rfl, rfl⟩)) | with_reducible exact (SeesY.set2 (SeesY.set2 (SeesY.of (Nat.le_refl _) (by assumption) y1.lt cy1_0 cy1_1) (.inl ⟨rfl, rfl⟩)) (.inr ⟨rfl, rfl⟩)) | with_reducible exact (SeesY.set3 (SeesY.set2 (SeesY.set2 (SeesY.of (Nat.le_refl _) (by assumption) y1.lt cy1_0 cy1_1) (.inl ⟨rfl, rfl⟩)) (.inr ⟨rfl, rfl⟩)) (by omega)) | with_reducible exact (SeesY.set3 (SeesY.set3 (SeesY.set2 (SeesY.set2 (SeesY.of (Nat.le_refl _) (by assumption) y1.lt cy1_0 cy1_1) (.inl ⟨rfl, rfl⟩)) (.inr ⟨rfl, rfl⟩)) (by omega)) (by omega))) ((refine step_append_lies _ rfl _ _ _ rfl w5.heap.size 100 i0 (.int .u32 0) 1 4 Tryz.underlying22 hi0 hz0 hz1 hz2 rfl (by omega) _ 0 [] rfl (by first | exact HOd.out | exact HOd.out.drew) ⟨gD, oD, none⟩ m e (words (a.den.take m)) rfl HNLd.out HNd.out (words_one _) (by omega) (by unfold maxLen; omega) (by omega) (by simp) (w5.heap.size + 1) (by simp) ?_; intro gd capd vd hownd hgrowd hatd hltd; have qd : Below w5.heap.size w5 vd := (((Below.refl _ _).alloc (Nat.le_refl _) _).drew).grown hgrowd (by simp) (fun b hb => Nat.le_of_eq (Option.some.inj hb)); have z1 : Blk vd (w.heap.size + 1) 77 #[.bool b, .slice (some ⟨ga, 0, none⟩) n capa] := y1.below qd y1.lt; obtain ⟨cz10, cz11⟩ := z1.c2; obtain ⟨fz10, fz11⟩ := z1.f2; have z2 : Blk vd (w.heap.size + 1 + 1) 77 #[.bool false, .slice none 0 0] := x1c.below qd x1c.lt; obtain ⟨cz20, cz21⟩ := z2.c2; obtain ⟨fz20, fz21⟩ := z2.f2))
 simp only [Nat.zero_add, List.nil_append] at hownd
 have hwd : Wd vd (some ⟨gd, 0, none⟩) m capd a.den := by
  have x := Wd.of_own hownd (Wds.take (h.2.2.1).1 m)
  rwa [List.take_of_length_le (Nat.le_of_eq (h.2.2.1).2.1.symm)] at x
 clear hownd hgrowd hatd HOd HNd HNLd
 clear cx1aa cx1ab cx1ac lx1aa lx1ab lx1ac lx1ad cy1_0 fy1 cy1_1 ly1 cx1ca fx1ca cx1cb fx1cb lx1ca lx1cb lx1cc lx1cd
 replace x1a := x1a.b qd
 replace hwa := hwa.belw qd
 have bwd : Below w.heap.size w vd := bw5.trans (qd.mono bw5.size)
 have lwd : w5.heap.size ≤ vd.heap.size := qd.size
 go_wp2_with fail
 refine bodyPost_ret (v := .tuple #[.agg #[.bool b, .slice (some ⟨ga, 0, none⟩) n capa], .agg #[.bool false, .slice (some ⟨gd, 0, none⟩) m capd]]) (by simp [results, Tryz.results48, go_sem, *] <;> trivial) rfl ?_
 have kp := (((((Kp.refl vd).sb (w.heap.size + 1) 0 z1.box (by decide) (.bool b)).sb (w.heap.size + 1) 1 (z1.box.set ⟨w.heap.size + 1, 0, none⟩ (.bool b)) (by decide) (.slice (some ⟨ga, 0, none⟩) n capa)).sb (w.heap.size + 1 + 1) 0 ((z2.box.set ⟨w.heap.size + 1, 0, none⟩ (.bool b)).set ⟨w.heap.size + 1, 1, none⟩ (.slice (some ⟨ga, 0, none⟩) n capa)) (by decide) (.bool false)).sb (w.heap.size + 1 + 1) 1 (((z2.box.set ⟨w.heap.size + 1, 0, none⟩ (.bool b)).set ⟨w.heap.size + 1, 1, none⟩ (.slice (some ⟨ga, 0, none⟩) n capa)).set ⟨w.heap.size + 1 + 1, 0, none⟩ (.bool false)) (by decide) (.slice (some ⟨gd, 0, none⟩) m capd))
 exact ⟨b, some ⟨ga, 0, none⟩, n, capa, false, some ⟨gd, 0, none⟩, m, capd, rfl, ⟨h.1.symm.trans HE.out.2.1, HE.out.1 ▸ hwa.keep kp, h.2.2.2.1⟩, ⟨by simp [wh], HE.out.2.2 ▸ hwd.keep kp, h.2.2.2.2⟩, ((((bwd.sc (w.heap.size + 1) 0 (by omega) (.bool b)).sc (w.heap.size + 1) 1 (by omega) (.slice (some ⟨ga, 0, none⟩) n capa)).sc (w.heap.size + 1 + 1) 0 (by omega) (.bool false)).sc (w.heap.size + 1 + 1) 1 (by omega) (.slice (some ⟨gd, 0, none⟩) m capd))⟩
theorem f_parts (w : World) (b A n c D m e q k) (h : QZ w b A n c D m e q k) (h0 : 0 < k) (hk : k ≤ 300000000) :
    Calls Tryz.prog 48 #[.agg #[.bool b, .slice A n c, .slice D m e]] w (RetII w q.num q.den k) := by
  obtain ⟨a, h, rfl⟩ := h
  cases ho : a.ok
  · exact f_parts_1 w b A n c D m e a k h h0 hk ho
  · by_cases hn : n = 0
    · exact f_parts_2 w b A n c D m e a k h h0 hk ho hn
    · exact f_parts_3 w b A n c D m e a k h h0 hk ho (h.num_ne (by omega))
end Go.Proofs.YtianjkiakkclgaaGreatDoor

/- Walks: fractions, sums and products. -/
namespace Go.Proofs.YtianjkiakkclgaaGreatDoor
open Go Go.RowKit Bn
attribute [local go_sem ↓] Go.wp_at_zero Go.wp_at_succ
theorem f_of (w : World) (i : Int) (hi : -4294967296 < i) (hi2 : i < 4294967296) :
  Calls Tryz.prog 25 #[.int .i64 i] w (RetF w (i : Rat) 1) := by
 go_enter Tryz.func25, Tryz.ntmps25
 go_wp2_with fail
 (with_reducible refine (i_of1 _ (i) ?_ ?_).mono ?_); (omega); (omega); rintro e w1 ⟨b1, A1, n1, c1, rfl, h1, hb1⟩
 have q1 := hb1.q1
 have x1a : Blk w1 w.heap.size 24 #[.bool false, .slice none 0 0, .slice none 0 0] := (blkAt _ _ _ (by simp)).below hb1 (by simp)
 have bw1 := (brefl w).trans (q1.mono (brefl w).size)
 have lw1 := hb1.l1
 clear q1
 go_wp2_with fail
 (with_reducible refine (f_one _).mono ?_); rintro e w2 ⟨b2, A2, n2, c2, rfl, h2, q2⟩
 replace h1 := h1.belw q2
 replace x1a := x1a.b q2
 have bw2 := bw1.trans (q2.mono bw1.size)
 have lw2 := q2.size
 clear q2 bw1
 go_wp2_with fail
 (with_reducible refine (f_form _ b1 A1 n1 c1 (i) (1) ?_ b2 A2 n2 c2 (1) (1) ?_ ((i : Rat)) (1) ?_ ?_ ?_ ?_).mono ?_); (exact h1.iz); (exact h2.iz); (decide); (exact int_q i); (exact Sz_int (by omega) (by decide)); (decide); rintro e w3 ⟨b3, A3, n3, c3, A'3, n'3, c'3, rfl, h3, q3⟩
 replace h1 := h1.belw q3
 replace h2 := h2.belw q3
 replace x1a := x1a.b q3
 have bw3 := bw2.trans (q3.mono bw2.size)
 have lw3 := q3.size
 clear q3 bw2
 have cx1a := x1a.c3
 have fx1a := x1a.f3
 have lx1a := lts0 x1a.lt
 go_wp2_with fail
 refine bodyPost_ret (v := .agg #[.bool b3, .slice A3 n3 c3, .slice A'3 n'3 c'3]) (by simp [results, Tryz.results25, go_sem, *] <;> trivial) rfl ?_
 exact ⟨b3, A3, n3, c3, A'3, n'3, c'3, rfl, h3.keep ((((Kp.refl w3).sb w.heap.size 0 x1a.box (by decide) (.bool b3)).sb w.heap.size 1 (x1a.box.set ⟨w.heap.size, 0, none⟩ (.bool b3)) (by decide) (.slice A3 n3 c3)).sb w.heap.size 2 ((x1a.box.set ⟨w.heap.size, 0, none⟩ (.bool b3)).set ⟨w.heap.size, 1, none⟩ (.slice A3 n3 c3)) (by decide) (.slice A'3 n'3 c'3)), (((bw3.sc w.heap.size 0 (by omega) (.bool b3)).sc w.heap.size 1 (by omega) (.slice A3 n3 c3)).sc w.heap.size 2 (by omega) (.slice A'3 n'3 c'3))⟩
theorem f_sign (w : World) (b A n c D m e q k) (h : QZ w b A n c D m e q k) (h0 : 0 < k) (hk : k ≤ 40000000) :
  Calls Tryz.prog 27 #[.agg #[.bool b, .slice A n c, .slice D m e]] w (RetV w (.int .i64 q.num.sign)) := by
 go_enter Tryz.func27, Tryz.ntmps27
 go_wp2_with fail
 (with_reducible refine (f_parts _ b A n c D m e (q) (k) ?_ ?_ ?_).mono ?_); (exact (h.belw ((Below.refl _ _).alloc (Nat.le_refl _) _))); (omega); (omega); rintro e w1 ⟨b1, A1, n1, c1, b'1, A'1, n'1, c'1, rfl, h1, h'1, hb1⟩
 have q1 := hb1.q1
 replace h := h.belw q1
 have x1a : Blk w1 w.heap.size 24 #[.bool b, .slice A n c, .slice D m e] := (blkAt _ _ _ (by simp)).below hb1 (by simp)
 have bw1 := (brefl w).trans (q1.mono (brefl w).size)
 have lw1 := hb1.l1
 clear q1
 go_wp2_with fail
 (with_reducible refine (i_sign _ b1 A1 n1 c1 ((q).num) ((k)) ?_ ?_).mono ?_); (exact (h1.belw (((Below.refl _ _).alloc (Nat.le_refl _) _).alloc (by simp) _)).iz); (omega); rintro e w2 ⟨rfl, hb2⟩
 have q2 := hb2.q2
 replace h := h.belw q2
 replace h1 := h1.belw q2
 replace h'1 := h'1.belw q2
 replace x1a := x1a.b q2
 have x2a : Blk w2 w1.heap.size 77 #[.bool b1, .slice A1 n1 c1] := ((blkAt _ _ _ (by simp)).alloc _).below hb2 (by simp <;> omega)
 have x2b := (blkAt _ _ _ (g := w1.heap.size + 1) (by simp)).below hb2 (by simp)
 have bw2 := bw1.trans (q2.mono bw1.size)
 have lw2 := hb2.l2
 clear q2 bw1
 go_wp2_with fail
 go_ret
 exact retI rfl bw2
theorem f_neg (w : World) (b A n c D m e q k) (h : QZ w b A n c D m e q k) (h0 : 0 < k) (hk : k ≤ 40000000) :
    Calls Tryz.prog 57 #[.agg #[.bool b, .slice A n c, .slice D m e]] w (RetF w (-q) k) := by
  have HS := Lib.hid (h.sz h0)
  go_enter Tryz.func57, Tryz.ntmps57
  go_wp2_with fail
  (with_reducible refine (f_parts _ b A n c D m e (q) (k) ?_ ?_ ?_).mono ?_); (exact (h.belw (((Below.refl _ _).alloc (Nat.le_refl _) _).alloc (by simp) _))); (omega); (omega); rintro e w1 ⟨b1, A1, n1, c1, b'1, A'1, n'1, c'1, rfl, h1, h'1, hb1⟩
  have q1 := hb1.q2
  replace h := h.belw q1
  have x1a : Blk w1 w.heap.size 24 #[.bool b, .slice A n c, .slice D m e] := ((blkAt _ _ _ (by simp)).alloc _).below hb1 (by simp <;> omega)
  have x1b := (blkAt _ _ _ (g := w.heap.size + 1) (by simp)).below hb1 (by simp)
  have bw1 := (brefl w).trans (q1.mono (brefl w).size)
  have lw1 := hb1.l2
  clear q1
  go_wp2_with fail
  have p2 := (((Kp.refl w1).alloc (.cells #[.bool b1, .slice A1 n1 c1] 77)).alloc (.cells #[.bool b'1, .slice A'1 n'1 c'1] 77))
  have bw2 := ((bw1.alloc (by first | omega | (simp <;> omega)) (.cells #[.bool b1, .slice A1 n1 c1] 77)).alloc (by first | omega | (simp <;> omega)) (.cells #[.bool b'1, .slice A'1 n'1 c'1] 77))
  have x2a : Blk ((w1.alloc (.cells #[.bool b1, .slice A1 n1 c1] 77)).alloc (.cells #[.bool b'1, .slice A'1 n'1 c'1] 77)) w1.heap.size 77 #[.bool b1, .slice A1 n1 c1] := ((blkAt _ _ _ (by simp)).alloc (.cells #[.bool b'1, .slice A'1 n'1 c'1] 77))
  have x2b : Blk ((w1.alloc (.cells #[.bool b1, .slice A1 n1 c1] 77)).alloc (.cells #[.bool b'1, .slice A'1 n'1 c'1] 77)) (w1.heap.size + 1) 77 #[.bool b'1, .slice A'1 n'1 c'1] := (blkAt _ _ _ (by simp))
  replace x1a := ((x1a.alloc (.cells #[.bool b1, .slice A1 n1 c1] 77)).alloc (.cells #[.bool b'1, .slice A'1 n'1 c'1] 77))
  replace x1b := ((x1b.alloc (.cells #[.bool b1, .slice A1 n1 c1] 77)).alloc (.cells #[.bool b'1, .slice A'1 n'1 c'1] 77))
  have lw2 : w1.heap.size + 2 ≤ ((w1.alloc (.cells #[.bool b1, .slice A1 n1 c1] 77)).alloc (.cells #[.bool b'1, .slice A'1 n'1 c'1] 77)).heap.size := by simp
  generalize hE2 : ((w1.alloc (.cells #[.bool b1, .slice A1 n1 c1] 77)).alloc (.cells #[.bool b'1, .slice A'1 n'1 c'1] 77)) = w2 at p2 bw2 lw2 x2a x2b x1a x1b ⊢
  clear hE2
  replace h := h.keep p2
  replace h1 := h1.keep p2
  replace h'1 := h'1.keep p2
  clear bw1
  have lx1a := lts0 x1a.lt
  have cx1ba : w2.cell? ⟨w.heap.size + 1, 0, none⟩ = some (.bool false) := x1b.cell 0
  have fx1ba : w2.frozen? ⟨w.heap.size + 1, 0, none⟩ = false := x1b.frozen 0
  have cx1bb : w2.cell? ⟨w.heap.size + 1, 1, none⟩ = some (.slice none 0 0) := x1b.cell 1
  have fx1bb : w2.frozen? ⟨w.heap.size + 1, 1, none⟩ = false := x1b.frozen 1
  have cx1bc : w2.cell? ⟨w.heap.size + 1, 2, none⟩ = some (.slice none 0 0) := x1b.cell 2
  have fx1bc : w2.frozen? ⟨w.heap.size + 1, 2, none⟩ = false := x1b.frozen 2
  have lx1b := lts1 x1b.lt
  have cx2a := x2a.c2
  have lx2a := lts0 x2a.lt
  have cx2b := x2b.c2
  have lx2b := lts1 x2b.lt
  have nfx1_0 : ¬ w.heap.size = w.heap.size + 1 := by omega
  have nex1_0 : ¬ w.heap.size = w.heap.size + 1 := by omega
  have nfx2_0 : ¬ w1.heap.size = w.heap.size + 1 := by omega
  have nex2_0 : ¬ w1.heap.size = w.heap.size + 1 := by omega
  have nfx2_1 : ¬ w1.heap.size + 1 = w.heap.size + 1 := by omega
  have nex2_1 : ¬ w1.heap.size = w.heap.size := by omega
  go_region_held3 (fun w' => SeesX w2.heap.size (w.heap.size + 1) w2 w') (first | with_reducible exact SeesX.of (Nat.le_refl _) (by assumption) | with_reducible exact SeesX.of (Nat.le_refl _) (brefl _).drew | with_reducible exact (SeesX.set (SeesX.set (SeesX.set (SeesX.of (Nat.le_refl _) (by assumption))))) | with_reducible exact (SeesX.set (SeesX.set (SeesX.of (Nat.le_refl _) (by assumption)))) | with_reducible exact (SeesX.set (SeesX.of (Nat.le_refl _) (by assumption))) | exact SeesX.of (Nat.le_refl _) (below_drewN (brefl _) 1) | exact SeesX.of (Nat.le_refl _) (below_drewN (by assumption) _))
    (first
      | (go_at_call 84; (with_reducible refine (i_neg _ b1 A1 n1 c1 ((q).num) ((k)) ?_ ?_).mono ?_); (exact h1.iz); (omega); rintro e w3 ⟨b3, A3, n3, c3, rfl, h3, hb3⟩; replace hb3 := bnext (below_drewN (brefl _) 1) hb3; have q3 : Below w2.heap.size w2 w3 := bnext (brefl w2) hb3; replace h := h.belw hb3; replace h1 := h1.belw hb3; replace h'1 := h'1.belw hb3)
      | (go_at_call 51; (with_reducible refine (f_form _ b3 A3 n3 c3 (-((q).num)) (((k))) ?_ b'1 A'1 n'1 c'1 (((q).den : Int)) ((k)) ?_ (-q) (k) ?_ ?_ ?_ ?_).mono ?_); (exact h3.iz); (exact h'1.iz); (exact den_ne _); (exact (neg_q q).symm); (exact Sz_neg HS.out); (omega); rintro e w4 ⟨b4, A4, n4, c4, A'4, n'4, c'4, rfl, h4, hb4⟩; have q4 : Below w2.heap.size w2 w4 := bnext q3 hb4; replace h := h.belw hb4; replace h1 := h1.belw hb4; replace h'1 := h'1.belw hb4; replace h3 := h3.belw hb4; have x1b := x1b.b q4; obtain ⟨cx1ba, cx1bb, cx1bc⟩ := x1b.c3; obtain ⟨fx1ba, fx1bb, fx1bc⟩ := x1b.f3))
  have bw4 := bw2.trans (q4.mono bw2.size)
  clear lx1a cx1ba fx1ba cx1bb fx1bb cx1bc fx1bc lx1b cx2a lx2a cx2b lx2b
  replace x1a := x1a.b q4
  replace x2a := x2a.b q4
  replace x2b := x2b.b q4
  have lw4 := q4.size
  obtain ⟨cx1ba, cx1bb, cx1bc⟩ := x1b.c3
  obtain ⟨fx1ba, fx1bb, fx1bc⟩ := x1b.f3
  go_wp2_with fail
  refine bodyPost_ret (v := .agg #[.bool b4, .slice A4 n4 c4, .slice A'4 n'4 c'4]) (by simp [results, Tryz.results57, go_sem, *] <;> trivial) rfl ?_
  exact ⟨b4, A4, n4, c4, A'4, n'4, c'4, rfl, h4.keep ((((Kp.refl w4).sb (w.heap.size + 1) 0 x1b.box (by decide) (.bool b4)).sb (w.heap.size + 1) 1 (x1b.box.set ⟨w.heap.size + 1, 0, none⟩ (.bool b4)) (by decide) (.slice A4 n4 c4)).sb (w.heap.size + 1) 2 ((x1b.box.set ⟨w.heap.size + 1, 0, none⟩ (.bool b4)).set ⟨w.heap.size + 1, 1, none⟩ (.slice A4 n4 c4)) (by decide) (.slice A'4 n'4 c'4)), (((bw4.sc (w.heap.size + 1) 0 (by omega) (.bool b4)).sc (w.heap.size + 1) 1 (by omega) (.slice A4 n4 c4)).sc (w.heap.size + 1) 2 (by omega) (.slice A'4 n'4 c'4))⟩
theorem f_add (w : World) (b A n c D m e q k) (h : QZ w b A n c D m e q k) (b' A' n' c' D' m' e' q' k') (h' : QZ w b' A' n' c' D' m' e' q' k') (h0 : 0 < k) (hk : k ≤ 40000000) (h0' : 0 < k') (hk' : k' ≤ 40000000) :
    Calls Tryz.prog 23 #[.agg #[.bool b, .slice A n c, .slice D m e], .agg #[.bool b', .slice A' n' c', .slice D' m' e']] w (RetF w (q + q') (k + k' + 1)) := by
  have HS := Lib.hid (h.sz h0)
  have HS' := Lib.hid (h'.sz h0')
  go_enter Tryz.func23, Tryz.ntmps23
  go_wp2_with fail
  (with_reducible refine (f_parts _ b A n c D m e (q) (k) ?_ ?_ ?_).mono ?_); (exact (h.belw ((((Below.refl _ _).alloc (Nat.le_refl _) _).alloc (by simp) _).alloc (by simp <;> omega) _))); (omega); (omega); rintro e w1 ⟨b1, A1, n1, c1, b'1, A'1, n'1, c'1, rfl, h1, h'1, hb1⟩
  have q1 := hb1.q3
  replace h := h.belw q1
  replace h' := h'.belw q1
  have x1a : Blk w1 w.heap.size 24 #[.bool b, .slice A n c, .slice D m e] := (((blkAt _ _ _ (by simp)).alloc _).alloc _).below hb1 (by simp <;> omega)
  have x1b := ((blkAt _ _ _ (g := w.heap.size + 1) (by simp)).alloc _).below hb1 (by simp <;> omega)
  have x1c := (blkAt _ _ _ (g := w.heap.size + 1 + 1) (by simp)).below hb1 (by simp)
  have bw1 := (brefl w).trans (q1.mono (brefl w).size)
  have lw1 := hb1.l3
  clear q1
  have cx1b := x1b.c3
  obtain ⟨lx1ba, lx1bb, lx1bc, lx1bd⟩ := lts1 x1b.lt
  go_wp2_with fail
  (with_reducible refine (f_parts _ b' A' n' c' D' m' e' (q') (k') ?_ ?_ ?_).mono ?_); (exact (h'.belw (((Below.refl _ _).alloc (Nat.le_refl _) _).alloc (by simp) _))); (omega); (omega); rintro e w2 ⟨b2, A2, n2, c2, b'2, A'2, n'2, c'2, rfl, h2, h'2, hb2⟩
  clear cx1b lx1ba lx1bb lx1bc lx1bd
  have q2 := hb2.q2
  replace h := h.belw q2
  replace h' := h'.belw q2
  replace h1 := h1.belw q2
  replace h'1 := h'1.belw q2
  replace x1a := x1a.b q2
  replace x1b := x1b.b q2
  replace x1c := x1c.b q2
  have x2a : Blk w2 w1.heap.size 77 #[.bool b1, .slice A1 n1 c1] := ((blkAt _ _ _ (by simp)).alloc _).below hb2 (by simp <;> omega)
  have x2b := (blkAt _ _ _ (g := w1.heap.size + 1) (by simp)).below hb2 (by simp)
  have bw2 := bw1.trans (q2.mono bw1.size)
  have lw2 := hb2.l2
  clear q2 bw1
  go_wp2_with fail
  have p3 := (((Kp.refl w2).alloc (.cells #[.bool b2, .slice A2 n2 c2] 77)).alloc (.cells #[.bool b'2, .slice A'2 n'2 c'2] 77))
  have bw3 := ((bw2.alloc (by first | omega | (simp <;> omega)) (.cells #[.bool b2, .slice A2 n2 c2] 77)).alloc (by first | omega | (simp <;> omega)) (.cells #[.bool b'2, .slice A'2 n'2 c'2] 77))
  have x3a : Blk ((w2.alloc (.cells #[.bool b2, .slice A2 n2 c2] 77)).alloc (.cells #[.bool b'2, .slice A'2 n'2 c'2] 77)) w2.heap.size 77 #[.bool b2, .slice A2 n2 c2] := ((blkAt _ _ _ (by simp)).alloc (.cells #[.bool b'2, .slice A'2 n'2 c'2] 77))
  have x3b : Blk ((w2.alloc (.cells #[.bool b2, .slice A2 n2 c2] 77)).alloc (.cells #[.bool b'2, .slice A'2 n'2 c'2] 77)) (w2.heap.size + 1) 77 #[.bool b'2, .slice A'2 n'2 c'2] := (blkAt _ _ _ (by simp))
  replace x1a := ((x1a.alloc (.cells #[.bool b2, .slice A2 n2 c2] 77)).alloc (.cells #[.bool b'2, .slice A'2 n'2 c'2] 77))
  replace x1b := ((x1b.alloc (.cells #[.bool b2, .slice A2 n2 c2] 77)).alloc (.cells #[.bool b'2, .slice A'2 n'2 c'2] 77))
  replace x1c := ((x1c.alloc (.cells #[.bool b2, .slice A2 n2 c2] 77)).alloc (.cells #[.bool b'2, .slice A'2 n'2 c'2] 77))
  replace x2a := ((x2a.alloc (.cells #[.bool b2, .slice A2 n2 c2] 77)).alloc (.cells #[.bool b'2, .slice A'2 n'2 c'2] 77))
  replace x2b := ((x2b.alloc (.cells #[.bool b2, .slice A2 n2 c2] 77)).alloc (.cells #[.bool b'2, .slice A'2 n'2 c'2] 77))
  have lw3 : w2.heap.size + 2 ≤ ((w2.alloc (.cells #[.bool b2, .slice A2 n2 c2] 77)).alloc (.cells #[.bool b'2, .slice A'2 n'2 c'2] 77)).heap.size := by simp
  generalize hE3 : ((w2.alloc (.cells #[.bool b2, .slice A2 n2 c2] 77)).alloc (.cells #[.bool b'2, .slice A'2 n'2 c'2] 77)) = w3 at p3 bw3 lw3 x3a x3b x1a x1b x1c x2a x2b ⊢
  clear hE3
  replace h := h.keep p3
  replace h' := h'.keep p3
  replace h1 := h1.keep p3
  replace h'1 := h'1.keep p3
  replace h2 := h2.keep p3
  replace h'2 := h'2.keep p3
  clear bw2
  have lx1a := lts0 x1a.lt
  obtain ⟨lx1ba, lx1bb, lx1bc, lx1bd⟩ := lts1 x1b.lt
  have cx1ca : w3.cell? ⟨w.heap.size + 1 + 1, 0, none⟩ = some (.bool false) := x1c.cell 0
  have fx1ca : w3.frozen? ⟨w.heap.size + 1 + 1, 0, none⟩ = false := x1c.frozen 0
  have cx1cb : w3.cell? ⟨w.heap.size + 1 + 1, 1, none⟩ = some (.slice none 0 0) := x1c.cell 1
  have fx1cb : w3.frozen? ⟨w.heap.size + 1 + 1, 1, none⟩ = false := x1c.frozen 1
  have cx1cc : w3.cell? ⟨w.heap.size + 1 + 1, 2, none⟩ = some (.slice none 0 0) := x1c.cell 2
  have fx1cc : w3.frozen? ⟨w.heap.size + 1 + 1, 2, none⟩ = false := x1c.frozen 2
  have lx1c := lts2 x1c.lt
  have cx2a := x2a.c2
  have lx2a := lts0 x2a.lt
  have cx2b := x2b.c2
  have lx2b := lts1 x2b.lt
  have cx3a := x3a.c2
  have lx3a := lts0 x3a.lt
  have cx3b := x3b.c2
  have lx3b := lts1 x3b.lt
  have nfx1_0 : ¬ w.heap.size = w.heap.size + 1 + 1 := by omega
  have nex1_0 : ¬ w.heap.size = w.heap.size + 2 := by omega
  have nfx1_1 : ¬ w.heap.size + 1 = w.heap.size + 1 + 1 := by omega
  have nex1_1 : ¬ w.heap.size = w.heap.size + 1 := by omega
  have nfx2_0 : ¬ w1.heap.size = w.heap.size + 1 + 1 := by omega
  have nex2_0 : ¬ w1.heap.size = w.heap.size + 2 := by omega
  have nfx2_1 : ¬ w1.heap.size + 1 = w.heap.size + 1 + 1 := by omega
  have nex2_1 : ¬ w1.heap.size = w.heap.size + 1 := by omega
  have nfx3_0 : ¬ w2.heap.size = w.heap.size + 1 + 1 := by omega
  have nex3_0 : ¬ w2.heap.size = w.heap.size + 2 := by omega
  have nfx3_1 : ¬ w2.heap.size + 1 = w.heap.size + 1 + 1 := by omega
  have nex3_1 : ¬ w2.heap.size = w.heap.size + 1 := by omega
  go_region_held3 (fun w' => SeesX w3.heap.size (w.heap.size + 1 + 1) w3 w') (first | with_reducible exact SeesX.of (Nat.le_refl _) (by assumption) | with_reducible exact SeesX.of (Nat.le_refl _) (brefl _).drew | with_reducible exact (SeesX.set (SeesX.set (SeesX.set (SeesX.of (Nat.le_refl _) (by assumption))))) | with_reducible exact (SeesX.set (SeesX.set (SeesX.of (Nat.le_refl _) (by assumption)))) | with_reducible exact (SeesX.set (SeesX.of (Nat.le_refl _) (by assumption))) | exact SeesX.of (Nat.le_refl _) (below_drewN (brefl _) 1) | exact SeesX.of (Nat.le_refl _) (below_drewN (by assumption) _))
    (first
      | (go_at_call 50; (with_reducible refine (i_mul _ b1 A1 n1 c1 ((q).num) ((k)) ?_ b'2 A'2 n'2 c'2 (((q').den : Int)) ((k')) ?_ ?_).mono ?_); (exact h1.iz); (exact h'2.iz); (omega); rintro e w4 ⟨b4, A4, n4, c4, rfl, h4, hb4⟩; replace hb4 := bnext (below_drewN (brefl _) 1) hb4; have q4 : Below w3.heap.size w3 w4 := bnext (brefl w3) hb4; replace h := h.belw hb4; replace h' := h'.belw hb4; replace h1 := h1.belw hb4; replace h'1 := h'1.belw hb4; replace h2 := h2.belw hb4; replace h'2 := h'2.belw hb4)
      | (go_at_call 50; (with_reducible refine (i_mul _ b2 A2 n2 c2 ((q').num) ((k')) ?_ b'1 A'1 n'1 c'1 (((q).den : Int)) ((k)) ?_ ?_).mono ?_); (exact h2.iz); (exact h'1.iz); (omega); rintro e w5 ⟨b5, A5, n5, c5, rfl, h5, hb5⟩; have q5 : Below w3.heap.size w3 w5 := bnext q4 hb5; replace h := h.belw hb5; replace h' := h'.belw hb5; replace h1 := h1.belw hb5; replace h'1 := h'1.belw hb5; replace h2 := h2.belw hb5; replace h'2 := h'2.belw hb5; replace h4 := h4.belw hb5)
      | (go_at_call 52; (with_reducible refine (i_add _ b4 A4 n4 c4 (((q).num) * (((q').den : Int))) (((k)) + ((k'))) ?_ b5 A5 n5 c5 (((q').num) * (((q).den : Int))) (((k')) + ((k))) ?_ ?_).mono ?_); (exact h4.iz); (exact h5.iz); (omega); rintro e w6 ⟨b6, A6, n6, c6, rfl, h6, hb6⟩; have q6 : Below w3.heap.size w3 w6 := bnext q5 hb6; replace h := h.belw hb6; replace h' := h'.belw hb6; replace h1 := h1.belw hb6; replace h'1 := h'1.belw hb6; replace h2 := h2.belw hb6; replace h'2 := h'2.belw hb6; replace h4 := h4.belw hb6; replace h5 := h5.belw hb6)
      | (go_at_call 50; (with_reducible refine (i_mul _ b'1 A'1 n'1 c'1 (((q).den : Int)) ((k)) ?_ b'2 A'2 n'2 c'2 (((q').den : Int)) ((k')) ?_ ?_).mono ?_); (exact h'1.iz); (exact h'2.iz); (omega); rintro e w7 ⟨b7, A7, n7, c7, rfl, h7, hb7⟩; have q7 : Below w3.heap.size w3 w7 := bnext q6 hb7; replace h := h.belw hb7; replace h' := h'.belw hb7; replace h1 := h1.belw hb7; replace h'1 := h'1.belw hb7; replace h2 := h2.belw hb7; replace h'2 := h'2.belw hb7; replace h4 := h4.belw hb7; replace h5 := h5.belw hb7; replace h6 := h6.belw hb7)
      | (go_at_call 51; (with_reducible refine (f_form _ b6 A6 n6 c6 ((((q).num) * (((q').den : Int))) + (((q').num) * (((q).den : Int)))) ((((k)) + ((k'))) + (((k')) + ((k))) + 1) ?_ b7 A7 n7 c7 ((((q).den : Int)) * (((q').den : Int))) (((k)) + ((k'))) ?_ (q + q') (k + k' + 1) ?_ ?_ ?_ ?_).mono ?_); (exact h6.iz); (exact h7.iz); (exact Int.mul_ne_zero (den_ne _) (den_ne _)); (exact (add_q _ _).symm); (exact Sz_add HS.out HS'.out); (omega); rintro e w8 ⟨b8, A8, n8, c8, A'8, n'8, c'8, rfl, h8, hb8⟩; have q8 : Below w3.heap.size w3 w8 := bnext q7 hb8; replace h := h.belw hb8; replace h' := h'.belw hb8; replace h1 := h1.belw hb8; replace h'1 := h'1.belw hb8; replace h2 := h2.belw hb8; replace h'2 := h'2.belw hb8; replace h4 := h4.belw hb8; replace h5 := h5.belw hb8; replace h6 := h6.belw hb8; replace h7 := h7.belw hb8; have x1c := x1c.b q8; obtain ⟨cx1ca, cx1cb, cx1cc⟩ := x1c.c3; obtain ⟨fx1ca, fx1cb, fx1cc⟩ := x1c.f3))
  have bw8 := bw3.trans (q8.mono bw3.size)
  clear lx1a lx1ba lx1bb lx1bc lx1bd cx1ca fx1ca cx1cb fx1cb cx1cc fx1cc lx1c cx2a lx2a cx2b lx2b cx3a lx3a cx3b lx3b
  replace x1a := x1a.b q8
  replace x1b := x1b.b q8
  replace x2a := x2a.b q8
  replace x2b := x2b.b q8
  replace x3a := x3a.b q8
  replace x3b := x3b.b q8
  have lw8 := q8.size
  obtain ⟨cx1ca, cx1cb, cx1cc⟩ := x1c.c3
  obtain ⟨fx1ca, fx1cb, fx1cc⟩ := x1c.f3
  go_wp2_with fail
  refine bodyPost_ret (v := .agg #[.bool b8, .slice A8 n8 c8, .slice A'8 n'8 c'8]) (by simp [results, Tryz.results23, go_sem, *] <;> trivial) rfl ?_
  exact ⟨b8, A8, n8, c8, A'8, n'8, c'8, rfl, h8.keep ((((Kp.refl w8).sb (w.heap.size + 1 + 1) 0 x1c.box (by decide) (.bool b8)).sb (w.heap.size + 1 + 1) 1 (x1c.box.set ⟨w.heap.size + 1 + 1, 0, none⟩ (.bool b8)) (by decide) (.slice A8 n8 c8)).sb (w.heap.size + 1 + 1) 2 ((x1c.box.set ⟨w.heap.size + 1 + 1, 0, none⟩ (.bool b8)).set ⟨w.heap.size + 1 + 1, 1, none⟩ (.slice A8 n8 c8)) (by decide) (.slice A'8 n'8 c'8)), (((bw8.sc (w.heap.size + 1 + 1) 0 (by omega) (.bool b8)).sc (w.heap.size + 1 + 1) 1 (by omega) (.slice A8 n8 c8)).sc (w.heap.size + 1 + 1) 2 (by omega) (.slice A'8 n'8 c'8))⟩
theorem f_mul (w : World) (b A n c D m e q k) (h : QZ w b A n c D m e q k) (b' A' n' c' D' m' e' q' k') (h' : QZ w b' A' n' c' D' m' e' q' k') (h0 : 0 < k) (hk : k ≤ 40000000) (h0' : 0 < k') (hk' : k' ≤ 40000000) :
    Calls Tryz.prog 24 #[.agg #[.bool b, .slice A n c, .slice D m e], .agg #[.bool b', .slice A' n' c', .slice D' m' e']] w (RetF w (q * q') (k + k')) := by
  have HS := Lib.hid (h.sz h0)
  have HS' := Lib.hid (h'.sz h0')
  go_enter Tryz.func24, Tryz.ntmps24
  go_wp2_with fail
  (with_reducible refine (f_parts _ b A n c D m e (q) (k) ?_ ?_ ?_).mono ?_); (exact (h.belw ((((Below.refl _ _).alloc (Nat.le_refl _) _).alloc (by simp) _).alloc (by simp <;> omega) _))); (omega); (omega); rintro e w1 ⟨b1, A1, n1, c1, b'1, A'1, n'1, c'1, rfl, h1, h'1, hb1⟩
  have q1 := hb1.q3
  replace h := h.belw q1
  replace h' := h'.belw q1
  have x1a : Blk w1 w.heap.size 24 #[.bool b, .slice A n c, .slice D m e] := (((blkAt _ _ _ (by simp)).alloc _).alloc _).below hb1 (by simp <;> omega)
  have x1b := ((blkAt _ _ _ (g := w.heap.size + 1) (by simp)).alloc _).below hb1 (by simp <;> omega)
  have x1c := (blkAt _ _ _ (g := w.heap.size + 1 + 1) (by simp)).below hb1 (by simp)
  have bw1 := (brefl w).trans (q1.mono (brefl w).size)
  have lw1 := hb1.l3
  clear q1
  have cx1b := x1b.c3
  obtain ⟨lx1ba, lx1bb, lx1bc, lx1bd⟩ := lts1 x1b.lt
  go_wp2_with fail
  (with_reducible refine (f_parts _ b' A' n' c' D' m' e' (q') (k') ?_ ?_ ?_).mono ?_); (exact (h'.belw (((Below.refl _ _).alloc (Nat.le_refl _) _).alloc (by simp) _))); (omega); (omega); rintro e w2 ⟨b2, A2, n2, c2, b'2, A'2, n'2, c'2, rfl, h2, h'2, hb2⟩
  clear cx1b lx1ba lx1bb lx1bc lx1bd
  have q2 := hb2.q2
  replace h := h.belw q2
  replace h' := h'.belw q2
  replace h1 := h1.belw q2
  replace h'1 := h'1.belw q2
  replace x1a := x1a.b q2
  replace x1b := x1b.b q2
  replace x1c := x1c.b q2
  have x2a : Blk w2 w1.heap.size 77 #[.bool b1, .slice A1 n1 c1] := ((blkAt _ _ _ (by simp)).alloc _).below hb2 (by simp <;> omega)
  have x2b := (blkAt _ _ _ (g := w1.heap.size + 1) (by simp)).below hb2 (by simp)
  have bw2 := bw1.trans (q2.mono bw1.size)
  have lw2 := hb2.l2
  clear q2 bw1
  go_wp2_with fail
  have p3 := (((Kp.refl w2).alloc (.cells #[.bool b2, .slice A2 n2 c2] 77)).alloc (.cells #[.bool b'2, .slice A'2 n'2 c'2] 77))
  have bw3 := ((bw2.alloc (by first | omega | (simp <;> omega)) (.cells #[.bool b2, .slice A2 n2 c2] 77)).alloc (by first | omega | (simp <;> omega)) (.cells #[.bool b'2, .slice A'2 n'2 c'2] 77))
  have x3a : Blk ((w2.alloc (.cells #[.bool b2, .slice A2 n2 c2] 77)).alloc (.cells #[.bool b'2, .slice A'2 n'2 c'2] 77)) w2.heap.size 77 #[.bool b2, .slice A2 n2 c2] := ((blkAt _ _ _ (by simp)).alloc (.cells #[.bool b'2, .slice A'2 n'2 c'2] 77))
  have x3b : Blk ((w2.alloc (.cells #[.bool b2, .slice A2 n2 c2] 77)).alloc (.cells #[.bool b'2, .slice A'2 n'2 c'2] 77)) (w2.heap.size + 1) 77 #[.bool b'2, .slice A'2 n'2 c'2] := (blkAt _ _ _ (by simp))
  replace x1a := ((x1a.alloc (.cells #[.bool b2, .slice A2 n2 c2] 77)).alloc (.cells #[.bool b'2, .slice A'2 n'2 c'2] 77))
  replace x1b := ((x1b.alloc (.cells #[.bool b2, .slice A2 n2 c2] 77)).alloc (.cells #[.bool b'2, .slice A'2 n'2 c'2] 77))
  replace x1c := ((x1c.alloc (.cells #[.bool b2, .slice A2 n2 c2] 77)).alloc (.cells #[.bool b'2, .slice A'2 n'2 c'2] 77))
  replace x2a := ((x2a.alloc (.cells #[.bool b2, .slice A2 n2 c2] 77)).alloc (.cells #[.bool b'2, .slice A'2 n'2 c'2] 77))
  replace x2b := ((x2b.alloc (.cells #[.bool b2, .slice A2 n2 c2] 77)).alloc (.cells #[.bool b'2, .slice A'2 n'2 c'2] 77))
  have lw3 : w2.heap.size + 2 ≤ ((w2.alloc (.cells #[.bool b2, .slice A2 n2 c2] 77)).alloc (.cells #[.bool b'2, .slice A'2 n'2 c'2] 77)).heap.size := by simp
  generalize hE3 : ((w2.alloc (.cells #[.bool b2, .slice A2 n2 c2] 77)).alloc (.cells #[.bool b'2, .slice A'2 n'2 c'2] 77)) = w3 at p3 bw3 lw3 x3a x3b x1a x1b x1c x2a x2b ⊢
  clear hE3
  replace h := h.keep p3
  replace h' := h'.keep p3
  replace h1 := h1.keep p3
  replace h'1 := h'1.keep p3
  replace h2 := h2.keep p3
  replace h'2 := h'2.keep p3
  clear bw2
  have lx1a := lts0 x1a.lt
  obtain ⟨lx1ba, lx1bb, lx1bc, lx1bd⟩ := lts1 x1b.lt
  have cx1ca : w3.cell? ⟨w.heap.size + 1 + 1, 0, none⟩ = some (.bool false) := x1c.cell 0
  have fx1ca : w3.frozen? ⟨w.heap.size + 1 + 1, 0, none⟩ = false := x1c.frozen 0
  have cx1cb : w3.cell? ⟨w.heap.size + 1 + 1, 1, none⟩ = some (.slice none 0 0) := x1c.cell 1
  have fx1cb : w3.frozen? ⟨w.heap.size + 1 + 1, 1, none⟩ = false := x1c.frozen 1
  have cx1cc : w3.cell? ⟨w.heap.size + 1 + 1, 2, none⟩ = some (.slice none 0 0) := x1c.cell 2
  have fx1cc : w3.frozen? ⟨w.heap.size + 1 + 1, 2, none⟩ = false := x1c.frozen 2
  have lx1c := lts2 x1c.lt
  have cx2a := x2a.c2
  have lx2a := lts0 x2a.lt
  have cx2b := x2b.c2
  have lx2b := lts1 x2b.lt
  have cx3a := x3a.c2
  have lx3a := lts0 x3a.lt
  have cx3b := x3b.c2
  have lx3b := lts1 x3b.lt
  have nfx1_0 : ¬ w.heap.size = w.heap.size + 1 + 1 := by omega
  have nex1_0 : ¬ w.heap.size = w.heap.size + 2 := by omega
  have nfx1_1 : ¬ w.heap.size + 1 = w.heap.size + 1 + 1 := by omega
  have nex1_1 : ¬ w.heap.size = w.heap.size + 1 := by omega
  have nfx2_0 : ¬ w1.heap.size = w.heap.size + 1 + 1 := by omega
  have nex2_0 : ¬ w1.heap.size = w.heap.size + 2 := by omega
  have nfx2_1 : ¬ w1.heap.size + 1 = w.heap.size + 1 + 1 := by omega
  have nex2_1 : ¬ w1.heap.size = w.heap.size + 1 := by omega
  have nfx3_0 : ¬ w2.heap.size = w.heap.size + 1 + 1 := by omega
  have nex3_0 : ¬ w2.heap.size = w.heap.size + 2 := by omega
  have nfx3_1 : ¬ w2.heap.size + 1 = w.heap.size + 1 + 1 := by omega
  have nex3_1 : ¬ w2.heap.size = w.heap.size + 1 := by omega
  go_region_held3 (fun w' => SeesX w3.heap.size (w.heap.size + 1 + 1) w3 w') (first | with_reducible exact SeesX.of (Nat.le_refl _) (by assumption) | with_reducible exact SeesX.of (Nat.le_refl _) (brefl _).drew | with_reducible exact (SeesX.set (SeesX.set (SeesX.set (SeesX.of (Nat.le_refl _) (by assumption))))) | with_reducible exact (SeesX.set (SeesX.set (SeesX.of (Nat.le_refl _) (by assumption)))) | with_reducible exact (SeesX.set (SeesX.of (Nat.le_refl _) (by assumption))) | exact SeesX.of (Nat.le_refl _) (below_drewN (brefl _) 1) | exact SeesX.of (Nat.le_refl _) (below_drewN (by assumption) _))
    (first
      | (go_at_call 50; (with_reducible refine (i_mul _ b1 A1 n1 c1 ((q).num) ((k)) ?_ b2 A2 n2 c2 ((q').num) ((k')) ?_ ?_).mono ?_); (exact h1.iz); (exact h2.iz); (omega); rintro e w4 ⟨b4, A4, n4, c4, rfl, h4, hb4⟩; replace hb4 := bnext (below_drewN (brefl _) 1) hb4; have q4 : Below w3.heap.size w3 w4 := bnext (brefl w3) hb4; replace h := h.belw hb4; replace h' := h'.belw hb4; replace h1 := h1.belw hb4; replace h'1 := h'1.belw hb4; replace h2 := h2.belw hb4; replace h'2 := h'2.belw hb4)
      | (go_at_call 50; (with_reducible refine (i_mul _ b'1 A'1 n'1 c'1 (((q).den : Int)) ((k)) ?_ b'2 A'2 n'2 c'2 (((q').den : Int)) ((k')) ?_ ?_).mono ?_); (exact h'1.iz); (exact h'2.iz); (omega); rintro e w5 ⟨b5, A5, n5, c5, rfl, h5, hb5⟩; have q5 : Below w3.heap.size w3 w5 := bnext q4 hb5; replace h := h.belw hb5; replace h' := h'.belw hb5; replace h1 := h1.belw hb5; replace h'1 := h'1.belw hb5; replace h2 := h2.belw hb5; replace h'2 := h'2.belw hb5; replace h4 := h4.belw hb5)
      | (go_at_call 51; (with_reducible refine (f_form _ b4 A4 n4 c4 (((q).num) * ((q').num)) (((k)) + ((k'))) ?_ b5 A5 n5 c5 ((((q).den : Int)) * (((q').den : Int))) (((k)) + ((k'))) ?_ (q * q') (k + k') ?_ ?_ ?_ ?_).mono ?_); (exact h4.iz); (exact h5.iz); (exact Int.mul_ne_zero (den_ne _) (den_ne _)); (exact (mul_q _ _).symm); (exact Sz_mul HS.out HS'.out); (omega); rintro e w6 ⟨b6, A6, n6, c6, A'6, n'6, c'6, rfl, h6, hb6⟩; have q6 : Below w3.heap.size w3 w6 := bnext q5 hb6; replace h := h.belw hb6; replace h' := h'.belw hb6; replace h1 := h1.belw hb6; replace h'1 := h'1.belw hb6; replace h2 := h2.belw hb6; replace h'2 := h'2.belw hb6; replace h4 := h4.belw hb6; replace h5 := h5.belw hb6; have x1c := x1c.b q6; obtain ⟨cx1ca, cx1cb, cx1cc⟩ := x1c.c3; obtain ⟨fx1ca, fx1cb, fx1cc⟩ := x1c.f3))
  have bw6 := bw3.trans (q6.mono bw3.size)
  clear lx1a lx1ba lx1bb lx1bc lx1bd cx1ca fx1ca cx1cb fx1cb cx1cc fx1cc lx1c cx2a lx2a cx2b lx2b cx3a lx3a cx3b lx3b
  replace x1a := x1a.b q6
  replace x1b := x1b.b q6
  replace x2a := x2a.b q6
  replace x2b := x2b.b q6
  replace x3a := x3a.b q6
  replace x3b := x3b.b q6
  have lw6 := q6.size
  obtain ⟨cx1ca, cx1cb, cx1cc⟩ := x1c.c3
  obtain ⟨fx1ca, fx1cb, fx1cc⟩ := x1c.f3
  go_wp2_with fail
  refine bodyPost_ret (v := .agg #[.bool b6, .slice A6 n6 c6, .slice A'6 n'6 c'6]) (by simp [results, Tryz.results24, go_sem, *] <;> trivial) rfl ?_
  exact ⟨b6, A6, n6, c6, A'6, n'6, c'6, rfl, h6.keep ((((Kp.refl w6).sb (w.heap.size + 1 + 1) 0 x1c.box (by decide) (.bool b6)).sb (w.heap.size + 1 + 1) 1 (x1c.box.set ⟨w.heap.size + 1 + 1, 0, none⟩ (.bool b6)) (by decide) (.slice A6 n6 c6)).sb (w.heap.size + 1 + 1) 2 ((x1c.box.set ⟨w.heap.size + 1 + 1, 0, none⟩ (.bool b6)).set ⟨w.heap.size + 1 + 1, 1, none⟩ (.slice A6 n6 c6)) (by decide) (.slice A'6 n'6 c'6)), (((bw6.sc (w.heap.size + 1 + 1) 0 (by omega) (.bool b6)).sc (w.heap.size + 1 + 1) 1 (by omega) (.slice A6 n6 c6)).sc (w.heap.size + 1 + 1) 2 (by omega) (.slice A'6 n'6 c'6))⟩
theorem f_sub (w : World) (b A n c D m e q k) (h : QZ w b A n c D m e q k) (b' A' n' c' D' m' e' q' k') (h' : QZ w b' A' n' c' D' m' e' q' k') (h0 : 0 < k) (hk : k ≤ 40000000) (h0' : 0 < k') (hk' : k' ≤ 40000000) :
    Calls Tryz.prog 29 #[.agg #[.bool b, .slice A n c, .slice D m e], .agg #[.bool b', .slice A' n' c', .slice D' m' e']] w (RetF w (q - q') (k + k' + 1)) := by
  rw [show q - q' = q + -q' from Rat.sub_eq_add_neg q q']
  go_enter Tryz.func29, Tryz.ntmps29
  go_wp2_with fail
  have p1 := ((((Kp.refl w).alloc (.cells #[.bool b, .slice A n c, .slice D m e] 24)).alloc (.cells #[.bool b', .slice A' n' c', .slice D' m' e'] 24)).alloc (.cells #[.bool false, .slice none 0 0, .slice none 0 0] 24))
  have bw1 := ((((brefl w).alloc (by first | omega | (simp <;> omega)) (.cells #[.bool b, .slice A n c, .slice D m e] 24)).alloc (by first | omega | (simp <;> omega)) (.cells #[.bool b', .slice A' n' c', .slice D' m' e'] 24)).alloc (by first | omega | (simp <;> omega)) (.cells #[.bool false, .slice none 0 0, .slice none 0 0] 24))
  have x1a : Blk (((w.alloc (.cells #[.bool b, .slice A n c, .slice D m e] 24)).alloc (.cells #[.bool b', .slice A' n' c', .slice D' m' e'] 24)).alloc (.cells #[.bool false, .slice none 0 0, .slice none 0 0] 24)) w.heap.size 24 #[.bool b, .slice A n c, .slice D m e] := (((blkAt _ _ _ (by simp)).alloc (.cells #[.bool b', .slice A' n' c', .slice D' m' e'] 24)).alloc (.cells #[.bool false, .slice none 0 0, .slice none 0 0] 24))
  have x1b : Blk (((w.alloc (.cells #[.bool b, .slice A n c, .slice D m e] 24)).alloc (.cells #[.bool b', .slice A' n' c', .slice D' m' e'] 24)).alloc (.cells #[.bool false, .slice none 0 0, .slice none 0 0] 24)) (w.heap.size + 1) 24 #[.bool b', .slice A' n' c', .slice D' m' e'] := ((blkAt _ _ _ (by simp)).alloc (.cells #[.bool false, .slice none 0 0, .slice none 0 0] 24))
  have x1c : Blk (((w.alloc (.cells #[.bool b, .slice A n c, .slice D m e] 24)).alloc (.cells #[.bool b', .slice A' n' c', .slice D' m' e'] 24)).alloc (.cells #[.bool false, .slice none 0 0, .slice none 0 0] 24)) (w.heap.size + 1 + 1) 24 #[.bool false, .slice none 0 0, .slice none 0 0] := (blkAt _ _ _ (by simp))
  have lw1 : w.heap.size + 3 ≤ (((w.alloc (.cells #[.bool b, .slice A n c, .slice D m e] 24)).alloc (.cells #[.bool b', .slice A' n' c', .slice D' m' e'] 24)).alloc (.cells #[.bool false, .slice none 0 0, .slice none 0 0] 24)).heap.size := by simp
  generalize hE1 : (((w.alloc (.cells #[.bool b, .slice A n c, .slice D m e] 24)).alloc (.cells #[.bool b', .slice A' n' c', .slice D' m' e'] 24)).alloc (.cells #[.bool false, .slice none 0 0, .slice none 0 0] 24)) = w1 at p1 bw1 lw1 x1a x1b x1c ⊢
  clear hE1
  replace h := h.keep p1
  replace h' := h'.keep p1
  have cx1a := x1a.c3
  have lx1a := lts0 x1a.lt
  have cx1b := x1b.c3
  have lx1b := lts1 x1b.lt
  obtain ⟨cx1ca, cx1cb, cx1cc⟩ := x1c.c3
  obtain ⟨fx1ca, fx1cb, fx1cc⟩ := x1c.f3
  have lx1c := lts2 x1c.lt
  have nfx1_0 : ¬ w.heap.size = w.heap.size + 1 + 1 := by omega
  have nex1_0 : ¬ w.heap.size = w.heap.size + 2 := by omega
  have nfx1_1 : ¬ w.heap.size + 1 = w.heap.size + 1 + 1 := by omega
  have nex1_1 : ¬ w.heap.size = w.heap.size + 1 := by omega
  go_region_held3 (fun w' => SeesX w1.heap.size (w.heap.size + 1 + 1) w1 w') (first | with_reducible exact SeesX.of (Nat.le_refl _) (by assumption) | with_reducible exact SeesX.of (Nat.le_refl _) (brefl _).drew | with_reducible exact (SeesX.set (SeesX.set (SeesX.set (SeesX.of (Nat.le_refl _) (by assumption))))) | with_reducible exact (SeesX.set (SeesX.set (SeesX.of (Nat.le_refl _) (by assumption)))) | with_reducible exact (SeesX.set (SeesX.of (Nat.le_refl _) (by assumption))) | exact SeesX.of (Nat.le_refl _) (below_drewN (brefl _) 1) | exact SeesX.of (Nat.le_refl _) (below_drewN (by assumption) _))
    (first
      | (go_at_call 57; (with_reducible refine (f_neg _ b' A' n' c' D' m' e' (q') (k') ?_ ?_ ?_).mono ?_); (exact h'); (omega); (omega); rintro e w2 ⟨b2, A2, n2, c2, A'2, n'2, c'2, rfl, h2, hb2⟩; replace hb2 := bnext (below_drewN (brefl _) 1) hb2; have q2 : Below w1.heap.size w1 w2 := bnext (brefl w1) hb2; replace h := h.belw hb2; replace h' := h'.belw hb2)
      | (go_at_call 23; (with_reducible refine (f_add _ b A n c D m e (q) (k) ?_ b2 A2 n2 c2 A'2 n'2 c'2 (-(q')) ((k')) ?_ ?_ ?_ ?_ ?_).mono ?_); (exact h); (exact h2.qz); (omega); (omega); (omega); (omega); rintro e w3 ⟨b3, A3, n3, c3, A'3, n'3, c'3, rfl, h3, hb3⟩; have q3 : Below w1.heap.size w1 w3 := bnext q2 hb3; replace h := h.belw hb3; replace h' := h'.belw hb3; replace h2 := h2.belw hb3; have x1c := x1c.b q3; obtain ⟨cx1ca, cx1cb, cx1cc⟩ := x1c.c3; obtain ⟨fx1ca, fx1cb, fx1cc⟩ := x1c.f3))
  have bw3 := bw1.trans (q3.mono bw1.size)
  clear cx1a lx1a cx1b lx1b cx1ca fx1ca cx1cb fx1cb cx1cc fx1cc lx1c
  replace x1a := x1a.b q3
  replace x1b := x1b.b q3
  have lw3 := q3.size
  obtain ⟨cx1ca, cx1cb, cx1cc⟩ := x1c.c3
  obtain ⟨fx1ca, fx1cb, fx1cc⟩ := x1c.f3
  go_wp2_with fail
  refine bodyPost_ret (v := .agg #[.bool b3, .slice A3 n3 c3, .slice A'3 n'3 c'3]) (by simp [results, Tryz.results29, go_sem, *] <;> trivial) rfl ?_
  exact ⟨b3, A3, n3, c3, A'3, n'3, c'3, rfl, h3.keep ((((Kp.refl w3).sb (w.heap.size + 1 + 1) 0 x1c.box (by decide) (.bool b3)).sb (w.heap.size + 1 + 1) 1 (x1c.box.set ⟨w.heap.size + 1 + 1, 0, none⟩ (.bool b3)) (by decide) (.slice A3 n3 c3)).sb (w.heap.size + 1 + 1) 2 ((x1c.box.set ⟨w.heap.size + 1 + 1, 0, none⟩ (.bool b3)).set ⟨w.heap.size + 1 + 1, 1, none⟩ (.slice A3 n3 c3)) (by decide) (.slice A'3 n'3 c'3)), (((bw3.sc (w.heap.size + 1 + 1) 0 (by omega) (.bool b3)).sc (w.heap.size + 1 + 1) 1 (by omega) (.slice A3 n3 c3)).sc (w.heap.size + 1 + 1) 2 (by omega) (.slice A'3 n'3 c'3))⟩
theorem f_cmp (w : World) (b A n c D m e q k) (h : QZ w b A n c D m e q k) (b' A' n' c' D' m' e' q' k') (h' : QZ w b' A' n' c' D' m' e' q' k') (h0 : 0 < k) (hk : k ≤ 40000000) (h0' : 0 < k') (hk' : k' ≤ 40000000) :
    Calls Tryz.prog 22 #[.agg #[.bool b, .slice A n c, .slice D m e], .agg #[.bool b', .slice A' n' c', .slice D' m' e']] w (RetV w (.int .i64 (cmpI (q.num * q'.den) (q'.num * q.den)))) := by
  go_enter Tryz.func22, Tryz.ntmps22
  go_wp2_with fail
  (with_reducible refine (f_parts _ b A n c D m e (q) (k) ?_ ?_ ?_).mono ?_); (exact (h.belw (((Below.refl _ _).alloc (Nat.le_refl _) _).alloc (by simp) _))); (omega); (omega); rintro e w1 ⟨b1, A1, n1, c1, b'1, A'1, n'1, c'1, rfl, h1, h'1, hb1⟩
  have q1 := hb1.q2
  replace h := h.belw q1
  replace h' := h'.belw q1
  have x1a : Blk w1 w.heap.size 24 #[.bool b, .slice A n c, .slice D m e] := ((blkAt _ _ _ (by simp)).alloc _).below hb1 (by simp <;> omega)
  have x1b := (blkAt _ _ _ (g := w.heap.size + 1) (by simp)).below hb1 (by simp)
  have bw1 := (brefl w).trans (q1.mono (brefl w).size)
  have lw1 := hb1.l2
  clear q1
  have cx1b := x1b.c3
  obtain ⟨lx1ba, lx1bb, lx1bc, lx1bd⟩ := lts1 x1b.lt
  go_wp2_with fail
  (with_reducible refine (f_parts _ b' A' n' c' D' m' e' (q') (k') ?_ ?_ ?_).mono ?_); (exact (h'.belw (((Below.refl _ _).alloc (Nat.le_refl _) _).alloc (by simp) _))); (omega); (omega); rintro e w2 ⟨b2, A2, n2, c2, b'2, A'2, n'2, c'2, rfl, h2, h'2, hb2⟩
  clear cx1b lx1ba lx1bb lx1bc lx1bd
  have q2 := hb2.q2
  replace h := h.belw q2
  replace h' := h'.belw q2
  replace h1 := h1.belw q2
  replace h'1 := h'1.belw q2
  replace x1a := x1a.b q2
  replace x1b := x1b.b q2
  have x2a : Blk w2 w1.heap.size 77 #[.bool b1, .slice A1 n1 c1] := ((blkAt _ _ _ (by simp)).alloc _).below hb2 (by simp <;> omega)
  have x2b := (blkAt _ _ _ (g := w1.heap.size + 1) (by simp)).below hb2 (by simp)
  have bw2 := bw1.trans (q2.mono bw1.size)
  have lw2 := hb2.l2
  clear q2 bw1
  go_wp2_with fail
  have p3 := (((Kp.refl w2).alloc (.cells #[.bool b2, .slice A2 n2 c2] 77)).alloc (.cells #[.bool b'2, .slice A'2 n'2 c'2] 77))
  have bw3 := ((bw2.alloc (by first | omega | (simp <;> omega)) (.cells #[.bool b2, .slice A2 n2 c2] 77)).alloc (by first | omega | (simp <;> omega)) (.cells #[.bool b'2, .slice A'2 n'2 c'2] 77))
  have x3a : Blk ((w2.alloc (.cells #[.bool b2, .slice A2 n2 c2] 77)).alloc (.cells #[.bool b'2, .slice A'2 n'2 c'2] 77)) w2.heap.size 77 #[.bool b2, .slice A2 n2 c2] := ((blkAt _ _ _ (by simp)).alloc (.cells #[.bool b'2, .slice A'2 n'2 c'2] 77))
  have x3b : Blk ((w2.alloc (.cells #[.bool b2, .slice A2 n2 c2] 77)).alloc (.cells #[.bool b'2, .slice A'2 n'2 c'2] 77)) (w2.heap.size + 1) 77 #[.bool b'2, .slice A'2 n'2 c'2] := (blkAt _ _ _ (by simp))
  replace x1a := ((x1a.alloc (.cells #[.bool b2, .slice A2 n2 c2] 77)).alloc (.cells #[.bool b'2, .slice A'2 n'2 c'2] 77))
  replace x1b := ((x1b.alloc (.cells #[.bool b2, .slice A2 n2 c2] 77)).alloc (.cells #[.bool b'2, .slice A'2 n'2 c'2] 77))
  replace x2a := ((x2a.alloc (.cells #[.bool b2, .slice A2 n2 c2] 77)).alloc (.cells #[.bool b'2, .slice A'2 n'2 c'2] 77))
  replace x2b := ((x2b.alloc (.cells #[.bool b2, .slice A2 n2 c2] 77)).alloc (.cells #[.bool b'2, .slice A'2 n'2 c'2] 77))
  have lw3 : w2.heap.size + 2 ≤ ((w2.alloc (.cells #[.bool b2, .slice A2 n2 c2] 77)).alloc (.cells #[.bool b'2, .slice A'2 n'2 c'2] 77)).heap.size := by simp
  generalize hE3 : ((w2.alloc (.cells #[.bool b2, .slice A2 n2 c2] 77)).alloc (.cells #[.bool b'2, .slice A'2 n'2 c'2] 77)) = w3 at p3 bw3 lw3 x3a x3b x1a x1b x2a x2b ⊢
  clear hE3
  replace h := h.keep p3
  replace h' := h'.keep p3
  replace h1 := h1.keep p3
  replace h'1 := h'1.keep p3
  replace h2 := h2.keep p3
  replace h'2 := h'2.keep p3
  clear bw2
  have lx1a := lts0 x1a.lt
  obtain ⟨lx1ba, lx1bb, lx1bc, lx1bd⟩ := lts1 x1b.lt
  have cx2a := x2a.c2
  have lx2a := lts0 x2a.lt
  have cx2b := x2b.c2
  have lx2b := lts1 x2b.lt
  have cx3a := x3a.c2
  have lx3a := lts0 x3a.lt
  have cx3b := x3b.c2
  have lx3b := lts1 x3b.lt
  go_region_held3 (fun w' => Sees w3.heap.size w3 w') (first | with_reducible exact Sees.of (Nat.le_refl _) (by assumption) | with_reducible exact Sees.of (Nat.le_refl _) (brefl _).drew | exact Sees.of (Nat.le_refl _) (below_drewN (brefl _) 1) | exact Sees.of (Nat.le_refl _) (below_drewN (by assumption) _))
    (first
      | (go_at_call 50; (with_reducible refine (i_mul _ b1 A1 n1 c1 ((q).num) ((k)) ?_ b'2 A'2 n'2 c'2 (((q').den : Int)) ((k')) ?_ ?_).mono ?_); (exact h1.iz); (exact h'2.iz); (omega); rintro e w4 ⟨b4, A4, n4, c4, rfl, h4, hb4⟩; replace hb4 := bnext (below_drewN (brefl _) 1) hb4; have q4 : Below w3.heap.size w3 w4 := bnext (brefl w3) hb4; replace h := h.belw hb4; replace h' := h'.belw hb4; replace h1 := h1.belw hb4; replace h'1 := h'1.belw hb4; replace h2 := h2.belw hb4; replace h'2 := h'2.belw hb4)
      | (go_at_call 50; (with_reducible refine (i_mul _ b2 A2 n2 c2 ((q').num) ((k')) ?_ b'1 A'1 n'1 c'1 (((q).den : Int)) ((k)) ?_ ?_).mono ?_); (exact h2.iz); (exact h'1.iz); (omega); rintro e w5 ⟨b5, A5, n5, c5, rfl, h5, hb5⟩; have q5 : Below w3.heap.size w3 w5 := bnext q4 hb5; replace h := h.belw hb5; replace h' := h'.belw hb5; replace h1 := h1.belw hb5; replace h'1 := h'1.belw hb5; replace h2 := h2.belw hb5; replace h'2 := h'2.belw hb5; replace h4 := h4.belw hb5)
      | (go_at_call 49; (with_reducible refine (i_cmp _ b4 A4 n4 c4 (((q).num) * (((q').den : Int))) (((k)) + ((k'))) ?_ b5 A5 n5 c5 (((q').num) * (((q).den : Int))) (((k')) + ((k))) ?_ ?_).mono ?_); (exact h4.iz); (exact h5.iz); (omega); rintro e w6 ⟨rfl, hb6⟩; have q6 : Below w3.heap.size w3 w6 := bnext q5 hb6; replace h := h.belw hb6; replace h' := h'.belw hb6; replace h1 := h1.belw hb6; replace h'1 := h'1.belw hb6; replace h2 := h2.belw hb6; replace h'2 := h'2.belw hb6; replace h4 := h4.belw hb6; replace h5 := h5.belw hb6))
  have bw6 := bw3.trans (q6.mono bw3.size)
  clear lx1a lx1ba lx1bb lx1bc lx1bd cx2a lx2a cx2b lx2b cx3a lx3a cx3b lx3b
  replace x1a := x1a.b q6
  replace x1b := x1b.b q6
  replace x2a := x2a.b q6
  replace x2b := x2b.b q6
  replace x3a := x3a.b q6
  replace x3b := x3b.b q6
  have lw6 := q6.size
  go_wp2_with fail
  go_ret
  exact retI rfl bw6
theorem f_from (w : World) (b A n c z k) (h : IZ w b A n c z k) (b' A' n' c' z' k') (h' : IZ w b' A' n' c' z' k') (q : Rat) (K : Nat) (hd : z' ≠ 0) (hq : Rat.divInt z z' = q) (hs : Sz q K) (hk : k + k' ≤ 300000000) :
  Calls Tryz.prog 88 #[.agg #[.bool b, .slice A n c], .agg #[.bool b', .slice A' n' c']] w (RetFe w .nilIface q K) := by
 obtain ⟨s, hs1⟩ : ∃ s, z'.sign = s := ⟨_, rfl⟩
 have e0 : ((s : Int) == 0) = false := by simp; rintro rfl; exact hd (Int.sign_eq_zero_iff_zero.1 hs1)
 have HS1 := Lib.hid hs1
 have HD := Lib.hid hd
 have HQ := Lib.hid hq
 have HS := Lib.hid hs
 clear hs1 hd hq hs
 go_enter Tryz.func88, Tryz.ntmps88
 go_wp2_with fail
 (with_reducible refine (i_sign_e _ b' A' n' c' (z') (k') ?_ s ?_ ?_).mono ?_); (exact (h'.belw ((((Below.refl _ _).alloc (Nat.le_refl _) _).alloc (by simp) _).alloc (by simp <;> omega) _))); (exact HS1.out); (omega); rintro e w1 ⟨rfl, hb1⟩
 have q1 := hb1.q3
 replace h := h.belw q1
 replace h' := h'.belw q1
 have x1a : Blk w1 w.heap.size 77 #[.bool b, .slice A n c] := (((blkAt _ _ _ (by simp)).alloc _).alloc _).below hb1 (by simp <;> omega)
 have x1b := ((blkAt _ _ _ (g := w.heap.size + 1) (by simp)).alloc _).below hb1 (by simp <;> omega)
 have x1c := (blkAt _ _ _ (g := w.heap.size + 1 + 1) (by simp)).below hb1 (by simp)
 have bw1 := (brefl w).trans (q1.mono (brefl w).size)
 have lw1 := hb1.l3
 clear q1
 have cx1a := x1a.c2
 have lx1a := lts0 x1a.lt
 have cx1b := x1b.c2
 have lx1b := lts1 x1b.lt
 go_wp2_with fail
 (with_reducible refine (f_form _ b A n c (z) (k) ?_ b' A' n' c' (z') (k') ?_ q K ?_ ?_ ?_ ?_).mono ?_); (exact h); (exact h'); (exact HD.out); (exact HQ.out); (exact HS.out); (omega); rintro e w2 ⟨b2, A2, n2, c2, A'2, n'2, c'2, rfl, h2, q2⟩
 clear cx1a lx1a cx1b lx1b
 replace h := h.belw q2
 replace h' := h'.belw q2
 replace x1a := x1a.b q2
 replace x1b := x1b.b q2
 replace x1c := x1c.b q2
 have bw2 := bw1.trans (q2.mono bw1.size)
 have lw2 := q2.size
 clear q2 bw1
 have cx1c := x1c.c3
 have fx1c := x1c.f3
 have lx1c := lts2 x1c.lt
 go_wp2_with fail
 refine bodyPost_ret (v := .tuple #[.agg #[.bool b2, .slice A2 n2 c2, .slice A'2 n'2 c'2], .nilIface]) (by simp [results, Tryz.results88, go_sem, *] <;> trivial) rfl ?_
 exact ⟨b2, A2, n2, c2, A'2, n'2, c'2, rfl, h2.keep ((((Kp.refl w2).sb (w.heap.size + 1 + 1) 0 x1c.box (by decide) (.bool b2)).sb (w.heap.size + 1 + 1) 1 (x1c.box.set ⟨w.heap.size + 1 + 1, 0, none⟩ (.bool b2)) (by decide) (.slice A2 n2 c2)).sb (w.heap.size + 1 + 1) 2 ((x1c.box.set ⟨w.heap.size + 1 + 1, 0, none⟩ (.bool b2)).set ⟨w.heap.size + 1 + 1, 1, none⟩ (.slice A2 n2 c2)) (by decide) (.slice A'2 n'2 c'2)), (((bw2.sc (w.heap.size + 1 + 1) 0 (by omega) (.bool b2)).sc (w.heap.size + 1 + 1) 1 (by omega) (.slice A2 n2 c2)).sc (w.heap.size + 1 + 1) 2 (by omega) (.slice A'2 n'2 c'2))⟩
theorem f_div (w : World) (b A n c D m e q k) (h : QZ w b A n c D m e q k) (b' A' n' c' D' m' e' q' k') (h' : QZ w b' A' n' c' D' m' e' q' k') (h0 : 0 < k) (hk : k ≤ 40000000) (h0' : 0 < k') (hk' : k' ≤ 40000000) (hne : q' ≠ 0) :
    Calls Tryz.prog 56 #[.agg #[.bool b, .slice A n c, .slice D m e], .agg #[.bool b', .slice A' n' c', .slice D' m' e']] w (RetFe w (.nilIface) (q / q') (k + k')) := by
  have HS := Lib.hid (h.sz h0)
  have HS' := Lib.hid (h'.sz h0')
  have HN := Lib.hid hne
  clear hne
  go_enter Tryz.func56, Tryz.ntmps56
  go_wp2_with fail
  (with_reducible refine (f_parts _ b A n c D m e (q) (k) ?_ ?_ ?_).mono ?_); (exact (h.belw ((((Below.refl _ _).alloc (Nat.le_refl _) _).alloc (by simp) _).alloc (by simp <;> omega) _))); (omega); (omega); rintro e w1 ⟨b1, A1, n1, c1, b'1, A'1, n'1, c'1, rfl, h1, h'1, hb1⟩
  have q1 := hb1.q3
  replace h := h.belw q1
  replace h' := h'.belw q1
  have x1a : Blk w1 w.heap.size 24 #[.bool b, .slice A n c, .slice D m e] := (((blkAt _ _ _ (by simp)).alloc _).alloc _).below hb1 (by simp <;> omega)
  have x1b := ((blkAt _ _ _ (g := w.heap.size + 1) (by simp)).alloc _).below hb1 (by simp <;> omega)
  have x1c := (blkAt _ _ _ (g := w.heap.size + 1 + 1) (by simp)).below hb1 (by simp)
  have bw1 := (brefl w).trans (q1.mono (brefl w).size)
  have lw1 := hb1.l3
  clear q1
  have cx1b := x1b.c3
  obtain ⟨lx1ba, lx1bb, lx1bc, lx1bd⟩ := lts1 x1b.lt
  go_wp2_with fail
  (with_reducible refine (f_parts _ b' A' n' c' D' m' e' (q') (k') ?_ ?_ ?_).mono ?_); (exact (h'.belw (((Below.refl _ _).alloc (Nat.le_refl _) _).alloc (by simp) _))); (omega); (omega); rintro e w2 ⟨b2, A2, n2, c2, b'2, A'2, n'2, c'2, rfl, h2, h'2, hb2⟩
  clear cx1b lx1ba lx1bb lx1bc lx1bd
  have q2 := hb2.q2
  replace h := h.belw q2
  replace h' := h'.belw q2
  replace h1 := h1.belw q2
  replace h'1 := h'1.belw q2
  replace x1a := x1a.b q2
  replace x1b := x1b.b q2
  replace x1c := x1c.b q2
  have x2a : Blk w2 w1.heap.size 77 #[.bool b1, .slice A1 n1 c1] := ((blkAt _ _ _ (by simp)).alloc _).below hb2 (by simp <;> omega)
  have x2b := (blkAt _ _ _ (g := w1.heap.size + 1) (by simp)).below hb2 (by simp)
  have bw2 := bw1.trans (q2.mono bw1.size)
  have lw2 := hb2.l2
  clear q2 bw1
  go_wp2_with fail
  have p3 := (((Kp.refl w2).alloc (.cells #[.bool b2, .slice A2 n2 c2] 77)).alloc (.cells #[.bool b'2, .slice A'2 n'2 c'2] 77))
  have bw3 := ((bw2.alloc (by first | omega | (simp <;> omega)) (.cells #[.bool b2, .slice A2 n2 c2] 77)).alloc (by first | omega | (simp <;> omega)) (.cells #[.bool b'2, .slice A'2 n'2 c'2] 77))
  have x3a : Blk ((w2.alloc (.cells #[.bool b2, .slice A2 n2 c2] 77)).alloc (.cells #[.bool b'2, .slice A'2 n'2 c'2] 77)) w2.heap.size 77 #[.bool b2, .slice A2 n2 c2] := ((blkAt _ _ _ (by simp)).alloc (.cells #[.bool b'2, .slice A'2 n'2 c'2] 77))
  have x3b : Blk ((w2.alloc (.cells #[.bool b2, .slice A2 n2 c2] 77)).alloc (.cells #[.bool b'2, .slice A'2 n'2 c'2] 77)) (w2.heap.size + 1) 77 #[.bool b'2, .slice A'2 n'2 c'2] := (blkAt _ _ _ (by simp))
  replace x1a := ((x1a.alloc (.cells #[.bool b2, .slice A2 n2 c2] 77)).alloc (.cells #[.bool b'2, .slice A'2 n'2 c'2] 77))
  replace x1b := ((x1b.alloc (.cells #[.bool b2, .slice A2 n2 c2] 77)).alloc (.cells #[.bool b'2, .slice A'2 n'2 c'2] 77))
  replace x1c := ((x1c.alloc (.cells #[.bool b2, .slice A2 n2 c2] 77)).alloc (.cells #[.bool b'2, .slice A'2 n'2 c'2] 77))
  replace x2a := ((x2a.alloc (.cells #[.bool b2, .slice A2 n2 c2] 77)).alloc (.cells #[.bool b'2, .slice A'2 n'2 c'2] 77))
  replace x2b := ((x2b.alloc (.cells #[.bool b2, .slice A2 n2 c2] 77)).alloc (.cells #[.bool b'2, .slice A'2 n'2 c'2] 77))
  have lw3 : w2.heap.size + 2 ≤ ((w2.alloc (.cells #[.bool b2, .slice A2 n2 c2] 77)).alloc (.cells #[.bool b'2, .slice A'2 n'2 c'2] 77)).heap.size := by simp
  generalize hE3 : ((w2.alloc (.cells #[.bool b2, .slice A2 n2 c2] 77)).alloc (.cells #[.bool b'2, .slice A'2 n'2 c'2] 77)) = w3 at p3 bw3 lw3 x3a x3b x1a x1b x1c x2a x2b ⊢
  clear hE3
  replace h := h.keep p3
  replace h' := h'.keep p3
  replace h1 := h1.keep p3
  replace h'1 := h'1.keep p3
  replace h2 := h2.keep p3
  replace h'2 := h'2.keep p3
  clear bw2
  have lx1a := lts0 x1a.lt
  obtain ⟨lx1ba, lx1bb, lx1bc, lx1bd⟩ := lts1 x1b.lt
  have cx1ca : w3.cell? ⟨w.heap.size + 1 + 1, 0, none⟩ = some (.bool false) := x1c.cell 0
  have fx1ca : w3.frozen? ⟨w.heap.size + 1 + 1, 0, none⟩ = false := x1c.frozen 0
  have cx1cb : w3.cell? ⟨w.heap.size + 1 + 1, 1, none⟩ = some (.slice none 0 0) := x1c.cell 1
  have fx1cb : w3.frozen? ⟨w.heap.size + 1 + 1, 1, none⟩ = false := x1c.frozen 1
  have cx1cc : w3.cell? ⟨w.heap.size + 1 + 1, 2, none⟩ = some (.slice none 0 0) := x1c.cell 2
  have fx1cc : w3.frozen? ⟨w.heap.size + 1 + 1, 2, none⟩ = false := x1c.frozen 2
  have lx1c := lts2 x1c.lt
  have cx2a := x2a.c2
  have lx2a := lts0 x2a.lt
  have cx2b := x2b.c2
  have lx2b := lts1 x2b.lt
  have cx3a := x3a.c2
  have lx3a := lts0 x3a.lt
  have cx3b := x3b.c2
  have lx3b := lts1 x3b.lt
  have nfx1_0 : ¬ w.heap.size = w.heap.size + 1 + 1 := by omega
  have nex1_0 : ¬ w.heap.size = w.heap.size + 2 := by omega
  have nfx1_1 : ¬ w.heap.size + 1 = w.heap.size + 1 + 1 := by omega
  have nex1_1 : ¬ w.heap.size = w.heap.size + 1 := by omega
  have nfx2_0 : ¬ w1.heap.size = w.heap.size + 1 + 1 := by omega
  have nex2_0 : ¬ w1.heap.size = w.heap.size + 2 := by omega
  have nfx2_1 : ¬ w1.heap.size + 1 = w.heap.size + 1 + 1 := by omega
  have nex2_1 : ¬ w1.heap.size = w.heap.size + 1 := by omega
  have nfx3_0 : ¬ w2.heap.size = w.heap.size + 1 + 1 := by omega
  have nex3_0 : ¬ w2.heap.size = w.heap.size + 2 := by omega
  have nfx3_1 : ¬ w2.heap.size + 1 = w.heap.size + 1 + 1 := by omega
  have nex3_1 : ¬ w2.heap.size = w.heap.size + 1 := by omega
  go_region_held3 (fun w' => SeesX w3.heap.size (w.heap.size + 1 + 1) w3 w') (first | with_reducible exact SeesX.of (Nat.le_refl _) (by assumption) | with_reducible exact SeesX.of (Nat.le_refl _) (brefl _).drew | with_reducible exact (SeesX.set (SeesX.set (SeesX.set (SeesX.of (Nat.le_refl _) (by assumption))))) | with_reducible exact (SeesX.set (SeesX.set (SeesX.of (Nat.le_refl _) (by assumption)))) | with_reducible exact (SeesX.set (SeesX.of (Nat.le_refl _) (by assumption))) | exact SeesX.of (Nat.le_refl _) (below_drewN (brefl _) 1) | exact SeesX.of (Nat.le_refl _) (below_drewN (by assumption) _))
    (first
      | (go_at_call 50; (with_reducible refine (i_mul _ b1 A1 n1 c1 ((q).num) ((k)) ?_ b'2 A'2 n'2 c'2 (((q').den : Int)) ((k')) ?_ ?_).mono ?_); (exact h1.iz); (exact h'2.iz); (omega); rintro e w4 ⟨b4, A4, n4, c4, rfl, h4, hb4⟩; replace hb4 := bnext (below_drewN (brefl _) 1) hb4; have q4 : Below w3.heap.size w3 w4 := bnext (brefl w3) hb4; replace h := h.belw hb4; replace h' := h'.belw hb4; replace h1 := h1.belw hb4; replace h'1 := h'1.belw hb4; replace h2 := h2.belw hb4; replace h'2 := h'2.belw hb4)
      | (go_at_call 50; (with_reducible refine (i_mul _ b'1 A'1 n'1 c'1 (((q).den : Int)) ((k)) ?_ b2 A2 n2 c2 ((q').num) ((k')) ?_ ?_).mono ?_); (exact h'1.iz); (exact h2.iz); (omega); rintro e w5 ⟨b5, A5, n5, c5, rfl, h5, hb5⟩; have q5 : Below w3.heap.size w3 w5 := bnext q4 hb5; replace h := h.belw hb5; replace h' := h'.belw hb5; replace h1 := h1.belw hb5; replace h'1 := h'1.belw hb5; replace h2 := h2.belw hb5; replace h'2 := h'2.belw hb5; replace h4 := h4.belw hb5)
      | (go_at_call 88; (with_reducible refine (f_from _ b4 A4 n4 c4 (((q).num) * (((q').den : Int))) (((k)) + ((k'))) ?_ b5 A5 n5 c5 ((((q).den : Int)) * ((q').num)) (((k)) + ((k'))) ?_ (q / q') (k + k') ?_ ?_ ?_ ?_).mono ?_); (exact h4.iz); (exact h5.iz); (exact Int.mul_ne_zero (den_ne _) (fun x => HN.out (Rat.num_eq_zero.1 x))); (exact (div_q _ _ HN.out).symm); (exact Sz_div HS.out HS'.out HN.out); (omega); rintro e w6 ⟨b6, A6, n6, c6, A'6, n'6, c'6, rfl, h6, hb6⟩; have q6 : Below w3.heap.size w3 w6 := bnext q5 hb6; replace h := h.belw hb6; replace h' := h'.belw hb6; replace h1 := h1.belw hb6; replace h'1 := h'1.belw hb6; replace h2 := h2.belw hb6; replace h'2 := h'2.belw hb6; replace h4 := h4.belw hb6; replace h5 := h5.belw hb6; have x1c := x1c.b q6; obtain ⟨cx1ca, cx1cb, cx1cc⟩ := x1c.c3; obtain ⟨fx1ca, fx1cb, fx1cc⟩ := x1c.f3))
  have bw6 := bw3.trans (q6.mono bw3.size)
  clear lx1a lx1ba lx1bb lx1bc lx1bd cx1ca fx1ca cx1cb fx1cb cx1cc fx1cc lx1c cx2a lx2a cx2b lx2b cx3a lx3a cx3b lx3b
  replace x1a := x1a.b q6
  replace x1b := x1b.b q6
  replace x2a := x2a.b q6
  replace x2b := x2b.b q6
  replace x3a := x3a.b q6
  replace x3b := x3b.b q6
  have lw6 := q6.size
  obtain ⟨cx1ca, cx1cb, cx1cc⟩ := x1c.c3
  obtain ⟨fx1ca, fx1cb, fx1cc⟩ := x1c.f3
  go_wp2_with fail
  refine bodyPost_ret (v := .tuple #[.agg #[.bool b6, .slice A6 n6 c6, .slice A'6 n'6 c'6], .nilIface]) (by simp [results, Tryz.results56, go_sem, *] <;> trivial) rfl ?_
  exact ⟨b6, A6, n6, c6, A'6, n'6, c'6, rfl, h6.keep ((((Kp.refl w6).sb (w.heap.size + 1 + 1) 0 x1c.box (by decide) (.bool b6)).sb (w.heap.size + 1 + 1) 1 (x1c.box.set ⟨w.heap.size + 1 + 1, 0, none⟩ (.bool b6)) (by decide) (.slice A6 n6 c6)).sb (w.heap.size + 1 + 1) 2 ((x1c.box.set ⟨w.heap.size + 1 + 1, 0, none⟩ (.bool b6)).set ⟨w.heap.size + 1 + 1, 1, none⟩ (.slice A6 n6 c6)) (by decide) (.slice A'6 n'6 c'6)), (((bw6.sc (w.heap.size + 1 + 1) 0 (by omega) (.bool b6)).sc (w.heap.size + 1 + 1) 1 (by omega) (.slice A6 n6 c6)).sc (w.heap.size + 1 + 1) 2 (by omega) (.slice A'6 n'6 c'6))⟩
end Go.Proofs.YtianjkiakkclgaaGreatDoor

/- Rotations with rational half-angle tangents, in plain fractions. -/
namespace Bn
structure TN where
  t : Rat
  h : Bool
deriving DecidableEq
def TN.ok (a : TN) : Prop := a.h = true → a.t = 0
def tzero : TN := ⟨0, false⟩
def thalf : TN := ⟨0, true⟩
def tcos (a : TN) : Rat := if a.h = true then -1 else (1 - a.t * a.t) / (1 + a.t * a.t)
def tsin (a : TN) : Rat := if a.h = true then 0 else (a.t + a.t) / (1 + a.t * a.t)
def tadd1 (a b : TN) : TN :=
  if a.h = true then (if b.h = true then tzero else if b.t = 0 then thalf else ⟨-1 / b.t, false⟩)
  else if 1 - a.t * b.t = 0 then thalf else ⟨(a.t + b.t) / (1 - a.t * b.t), false⟩
def tadd (a b : TN) : TN := if a.h = false ∧ b.h = true then tadd1 b a else tadd1 a b
theorem sq_nonneg' (x : Rat) : 0 ≤ x * x := by
  rcases Rat.le_total (a := 0) (b := x) with h | h
  · exact Rat.mul_nonneg h h
  · have : 0 ≤ -x := by grind
    have := Rat.mul_nonneg this this
    grind
theorem one_add_sq (x : Rat) : 1 + x * x ≠ 0 := by
  have := sq_nonneg' x
  grind
theorem tcs_inj {a b : TN} (ha : a.ok) (hb : b.ok) (hc : tcos a = tcos b) (hs : tsin a = tsin b) : a = b := by
  rcases a with ⟨s, g⟩
  rcases b with ⟨t, h⟩
  have h1 := one_add_sq s
  have h2 := one_add_sq t
  cases g <;> cases h <;> simp only [tcos, tsin, TN.ok, if_true, if_false, Bool.false_eq_true, forall_const, false_implies] at *
  · congr 1
    grind
  · grind
  · grind
  · rw [ha, hb]
theorem tadd_ok {a b : TN} : (tadd a b).ok := by
  unfold tadd tadd1 TN.ok tzero thalf
  split <;> (repeat' split) <;> simp
theorem tcos_add {a b : TN} (ha : a.ok) (hb : b.ok) : tcos (tadd a b) = tcos a * tcos b - tsin a * tsin b := by
  rcases a with ⟨s, g⟩
  rcases b with ⟨t, h⟩
  have h1 := one_add_sq s
  have h2 := one_add_sq t
  cases g <;> cases h <;> simp only [tadd, tadd1, tcos, tsin, TN.ok, tzero, thalf, if_true, if_false, Bool.false_eq_true, Bool.true_eq_false, forall_const, false_implies, and_true, and_false, and_self] at *
  · split
    · simp only [if_true]; grind
    · have h3 := one_add_sq ((s + t) / (1 - s * t))
      simp only [Bool.false_eq_true, if_false]
      grind
  · split
    · simp only [if_true]; grind
    · have h3 := one_add_sq (-1 / s)
      simp only [Bool.false_eq_true, if_false]
      grind
  · split
    · simp only [if_true]; grind
    · have h3 := one_add_sq (-1 / t)
      simp only [Bool.false_eq_true, if_false]
      grind
  · grind
theorem tsin_add {a b : TN} (ha : a.ok) (hb : b.ok) : tsin (tadd a b) = tsin a * tcos b + tcos a * tsin b := by
  rcases a with ⟨s, g⟩
  rcases b with ⟨t, h⟩
  have h1 := one_add_sq s
  have h2 := one_add_sq t
  cases g <;> cases h <;> simp only [tadd, tadd1, tcos, tsin, TN.ok, tzero, thalf, if_true, if_false, Bool.false_eq_true, Bool.true_eq_false, forall_const, false_implies, and_true, and_false, and_self] at *
  · split
    · simp only [if_true]; grind
    · have h3 := one_add_sq ((s + t) / (1 - s * t))
      simp only [Bool.false_eq_true, if_false]
      grind
  · split
    · simp only [if_true]; grind
    · have h3 := one_add_sq (-1 / s)
      simp only [Bool.false_eq_true, if_false]
      grind
  · split
    · simp only [if_true]; grind
    · have h3 := one_add_sq (-1 / t)
      simp only [Bool.false_eq_true, if_false]
      grind
  · grind
theorem tadd_comm {a b : TN} (ha : a.ok) (hb : b.ok) : tadd a b = tadd b a :=
  tcs_inj tadd_ok tadd_ok (by rw [tcos_add ha hb, tcos_add hb ha]; grind) (by rw [tsin_add ha hb, tsin_add hb ha]; grind)
theorem tzero_ok : tzero.ok := by intro h; cases h
/-! ### order -/
def rcmp (a b : Rat) : Int := if a < b then -1 else if a = b then 0 else 1
theorem rcmp_zero {a b : Rat} : rcmp a b = 0 ↔ a = b := by
  unfold rcmp
  split
  · grind
  · split
    · simpa
    · simpa
def tof (c s : Rat) : TN := if c = -1 then thalf else ⟨s / (1 + c), false⟩
end Bn

/- Cells that are only read; turns as values. -/
namespace Go.Proofs.YtianjkiakkclgaaGreatDoor
open Go Go.RowKit Bn
attribute [local go_sem ↓] Go.wp_at_zero Go.wp_at_succ
def Rd (w : World) (g : Nat) (cs : Array Value) : Prop := g < w.heap.size ∧ ∀ i, i < cs.size → w.cell? ⟨g, i, none⟩ = cs[i]?
section
variable {w w' : World} {g : Nat} {cs : Array Value}
theorem Rd.lt (h : Rd w g cs) : g < w.heap.size := h.1
theorem Rd.cell (h : Rd w g cs) (i : Nat) (hi : i < cs.size) : w.cell? ⟨g, i, none⟩ = cs[i]? := h.2 i hi
theorem Rd.below {B : Nat} (h : Rd w g cs) (hb : Below B w w') (hg : g < B) : Rd w' g cs := by
  refine ⟨?_, fun i hi => ?_⟩
  · have := hb.block g hg
    rcases Nat.lt_or_ge g w'.heap.size with h1 | h1
    · exact h1
    · rw [Array.getElem?_eq_none h1, Array.getElem?_eq_getElem h.1] at this; cases this
  · rw [← h.2 i hi]; unfold World.cell?; rw [hb.block g hg]
theorem Rd.alloc (h : Rd w g cs) (o : Obj) : Rd (w.alloc o) g cs := by
  refine ⟨by have := h.1; simp; omega, fun i hi => ?_⟩
  rw [← h.2 i hi]; unfold World.cell?; rw [Below.heap_alloc w o g h.1]
theorem Rd.far (h : Rd w g cs) {p : Addr} (hp : g ≠ p.block) (u : Value) : Rd (w.setCell p u) g cs := by
  refine ⟨by have := h.1; simp [World.setCell]; exact this, fun i hi => ?_⟩
  rw [← h.2 i hi]; unfold World.cell?; rw [Below.heap_setCell w p u g hp]
end
abbrev SeesB (G : Nat) (W0 W : World) : Prop := ((∀ b o, b < G → W.cell? ⟨b, o, none⟩ = W0.cell? ⟨b, o, none⟩) ∧ (∀ b o, b < G → W.frozen? ⟨b, o, none⟩ = W0.frozen? ⟨b, o, none⟩)) ∧ G ≤ W.heap.size
theorem SeesB.of {W0 W : World} (hb : Below W0.heap.size W0 W) : SeesB W0.heap.size W0 W := Sees.of (Nat.le_refl _) hb

abbrev SeesZ (G g g' : Nat) (W0 W : World) : Prop := ((∀ b o, b < G → b ≠ g → b ≠ g' → W.cell? ⟨b, o, none⟩ = W0.cell? ⟨b, o, none⟩) ∧ (∀ b o, b < G → W.frozen? ⟨b, o, none⟩ = W0.frozen? ⟨b, o, none⟩)) ∧ G ≤ W.heap.size
theorem SeesZ.of {G g g' : Nat} {W0 W : World} (h : G ≤ W0.heap.size) (hb : Below W0.heap.size W0 W) : SeesZ G g g' W0 W :=
  ⟨⟨fun b o hlt _ _ => (bcell hb).1 b o (Nat.lt_of_lt_of_le hlt h), fun b o hlt => (bcell hb).2 b o (Nat.lt_of_lt_of_le hlt h)⟩, Nat.le_trans h hb.size⟩
theorem SeesZ.set2 {G g g' : Nat} {W0 W : World} (h : SeesZ G g g' W0 W) {i : Nat} {u : Value} : SeesZ G g g' W0 (W.setCell ⟨g', i, none⟩ u) := by
  refine ⟨⟨fun b o hlt hne hne' => ?_, fun b o hlt => ?_⟩, ?_⟩
  · rw [← h.1.1 b o hlt hne hne']; unfold World.cell?; rw [Below.heap_setCell _ _ _ b hne']
  · rw [← h.1.2 b o hlt]; exact World.frozen?_setCell ..
  · have := h.2; simp [World.setCell]; exact this
def QK (w : World) (b : Bool) (A : Option Addr) (n c : Nat) (D : Option Addr) (m e : Nat) (q : Rat) (k : Nat) : Prop := ∃ a, QD w b A n c D m e a k ∧ a.q = q ∧ a.ok = true
section
variable {w w' : World} {b x : Bool} {A D : Option Addr} {n c m e k j : Nat} {q : Rat} {t : TN}
theorem QK.qz (h : QK w b A n c D m e q k) : QZ w b A n c D m e q k := by obtain ⟨a, h1, h2, _⟩ := h; exact ⟨a, h1, h2⟩
theorem QV.qk (h : QV w b A n c D m e q k) : QK w b A n c D m e q k := ⟨_, h, rd_q q, rd_ok q⟩
theorem QK.belw (h : QK w b A n c D m e q k) (hb : Below w.heap.size w w') : QK w' b A n c D m e q k := by obtain ⟨a, h1, h2⟩ := h; exact ⟨a, h1.belw hb, h2⟩
theorem QK.keep (h : QK w b A n c D m e q k) (hb : Kp w w') : QK w' b A n c D m e q k := by obtain ⟨a, h1, h2⟩ := h; exact ⟨a, h1.keep hb, h2⟩
theorem QK.mono (h : QK w b A n c D m e q k) (hk : k ≤ j) : QK w b A n c D m e q j := by obtain ⟨a, h1, h2⟩ := h; exact ⟨a, h1.mono hk, h2⟩
def TK (w : World) (b : Bool) (A : Option Addr) (n c : Nat) (D : Option Addr) (m e : Nat) (x : Bool) (t : TN) (k : Nat) : Prop := QK w b A n c D m e t.t k ∧ x = t.h ∧ t.ok
def TV (w : World) (b : Bool) (A : Option Addr) (n c : Nat) (D : Option Addr) (m e : Nat) (x : Bool) (t : TN) (k : Nat) : Prop := QV w b A n c D m e t.t k ∧ x = t.h ∧ t.ok
theorem TV.tk (h : TV w b A n c D m e x t k) : TK w b A n c D m e x t k := ⟨h.1.qk, h.2⟩
theorem TK.belw (h : TK w b A n c D m e x t k) (hb : Below w.heap.size w w') : TK w' b A n c D m e x t k := ⟨h.1.belw hb, h.2⟩
theorem TK.keep (h : TK w b A n c D m e x t k) (hb : Kp w w') : TK w' b A n c D m e x t k := ⟨h.1.keep hb, h.2⟩
theorem TV.belw (h : TV w b A n c D m e x t k) (hb : Below w.heap.size w w') : TV w' b A n c D m e x t k := ⟨h.1.belw hb, h.2⟩
theorem TV.keep (h : TV w b A n c D m e x t k) (hb : Kp w w') : TV w' b A n c D m e x t k := ⟨h.1.keep hb, h.2⟩
theorem TK.mono (h : TK w b A n c D m e x t k) (hk : k ≤ j) : TK w b A n c D m e x t j := ⟨h.1.mono hk, h.2⟩
theorem TK.qk (h : TK w b A n c D m e x t k) : QK w b A n c D m e t.t k := h.1
theorem TK.qz (h : TK w b A n c D m e x t k) : QZ w b A n c D m e t.t k := h.1.qz
theorem TV.qk (h : TV w b A n c D m e x t k) : QK w b A n c D m e t.t k := h.1.qk
theorem TV.qz (h : TV w b A n c D m e x t k) : QZ w b A n c D m e t.t k := h.1.qz
theorem TV.mono (h : TV w b A n c D m e x t k) (hk : k ≤ j) : TV w b A n c D m e x t j := ⟨h.1.mono hk, h.2⟩
end
def RetT (w : World) (t : TN) (k : Nat) (e : Ending) (w' : World) : Prop := ∃ b A n c A' n' c' x, e = .returned (.agg #[.bool b, .slice A n c, .slice A' n' c', .bool x]) ∧ TV w' b A n c A' n' c' x t k ∧ Below w.heap.size w w'
def RetTe (w : World) (v : Value) (t : TN) (k : Nat) (e : Ending) (w' : World) : Prop := ∃ b A n c A' n' c' x, e = .returned (.tuple #[.agg #[.bool b, .slice A n c, .slice A' n' c', .bool x], v]) ∧ TV w' b A n c A' n' c' x t k ∧ Below w.heap.size w w'
def RetQQ (w : World) (q r : Rat) (k : Nat) (e : Ending) (w' : World) : Prop := ∃ b A n c A' n' c' d D m f D' m' f', e = .returned (.tuple #[.agg #[.bool b, .slice A n c, .slice A' n' c'], .agg #[.bool d, .slice D m f, .slice D' m' f']]) ∧ QV w' b A n c A' n' c' q k ∧ QV w' d D m f D' m' f' r k ∧ Below w.heap.size w w'
end Go.Proofs.YtianjkiakkclgaaGreatDoor

/- A region that draws its order, walked operation by operation: what each one leaves stays true. -/
namespace Go.Proofs.YtianjkiakkclgaaGreatDoor
open Go Go.RowKit Bn
attribute [local go_sem ↓] Go.wp_at_zero Go.wp_at_succ

theorem count_set_lt {l : List Bool} {i : Nat} (h : l[i]? = some false) : (l.set i true).count false + 1 = l.count false := by
  induction l generalizing i with
  | nil => simp at h
  | cons b l ih =>
    cases i with
    | zero => simp at h; subst h; simp
    | succ i =>
      simp only [List.getElem?_cons_succ] at h
      have := ih h
      simp only [List.set_cons_succ, List.count_cons]
      omega
section
variable {P : Program} {ops : Array Oper} {Q : Exit → Act → World → Prop} {md : Region.Mode}
theorem ready_get {L : Array Bool} {i : Nat} (h : i ∈ Region.ready md ops L) : L.toList[i]? = some false := by
  have h1 := (mem_ready.1 h).1
  rcases Nat.lt_or_ge i L.size with h2 | h2
  · rw [Array.getD_eq_getD_getElem?, Array.getElem?_eq_getElem h2] at h1
    simp only [Option.getD_some] at h1
    rw [Array.getElem?_toList, Array.getElem?_eq_getElem h2, h1]
  · rw [Array.getD_eq_getD_getElem?, Array.getElem?_eq_none h2] at h1; cases h1
theorem wpAny_inv (A : Array Bool → Act → World → Prop)
    (hstep : ∀ L a w i, L.size = ops.size → i ∈ Region.ready md ops L → A L a w → wpOp P ops Q i (A (L.setIfInBounds i true)) a w)
    (hend : ∀ L a w, L.size = ops.size → Region.ready md ops L = [] → A L a w → Q .normal a w) :
    ∀ (fuel : Nat) (L : Array Bool) (a : Act) (w : World), L.size = ops.size → L.toList.count false ≤ fuel → A L a w → wpAny P md ops Q fuel L a w := by
  intro fuel
  induction fuel with
  | zero =>
    intro L a w hs hc hA
    have hr : Region.ready md ops L = [] := by
      cases hr : Region.ready md ops L with
      | nil => rfl
      | cons i r =>
        have h1 := ready_get (md := md) (ops := ops) (L := L) (i := i) (by rw [hr]; simp)
        have h2 := count_set_lt h1
        omega
    exact ⟨hr, hend L a w hs hr hA⟩
  | succ fuel ih =>
    intro L a w hs hc hA
    refine ⟨fun hr => hend L a w hs hr hA, fun i hi => wpOp_mono (fun a' w' h' => ih _ _ _ (by simpa using hs) ?_ h') (hstep L a w i hs hi hA)⟩
    have h2 := count_set_lt (ready_get hi)
    rw [Array.toList_setIfInBounds]
    omega
end
def setFrom (w : World) (g : Nat) : Nat → List Value → World
  | _, [] => w
  | i, u :: us => setFrom (w.setCell ⟨g, i, none⟩ u) g (i + 1) us
def setL (c : Array Value) : Nat → List Value → Array Value
  | _, [] => c
  | i, u :: us => setL (c.setIfInBounds i u) (i + 1) us
section
variable {g : Nat} {t : TypeId}
theorem setFrom_kp (ht : KT t = false) : ∀ (us : List Value) (i : Nat) (w : World) (c : Array Value), Blk w g t c → Kp w (setFrom w g i us) := by
  intro us
  induction us with
  | nil => intro i w c _; exact Kp.refl w
  | cons u us ih =>
    intro i w c h
    exact ((Kp.refl w).setB (p := ⟨g, i, none⟩) h.box ht u).trans (ih (i + 1) _ _ (h.set_ i u))
theorem setFrom_blk : ∀ (us : List Value) (i : Nat) (w : World) (c : Array Value), Blk w g t c → Blk (setFrom w g i us) g t (setL c i us) := by
  intro us
  induction us with
  | nil => intro i w c h; exact h
  | cons u us ih => intro i w c h; exact ih (i + 1) _ _ (h.set_ i u)
theorem setFrom_far {g' : Nat} {t' : TypeId} {c' : Array Value} (hg : g' ≠ g) : ∀ (us : List Value) (i : Nat) (w : World), Blk w g' t' c' → Blk (setFrom w g i us) g' t' c' := by
  intro us
  induction us with
  | nil => intro i w h; exact h
  | cons u us ih => intro i w h; exact ih (i + 1) _ (h.far hg u)
theorem setFrom_below {B : Nat} {a : World} (hg : B ≤ g) : ∀ (us : List Value) (i : Nat) (w : World), Below B a w → Below B a (setFrom w g i us) := by
  intro us
  induction us with
  | nil => intro i w h; exact h
  | cons u us ih => intro i w h; exact ih (i + 1) _ (h.setCell (p := ⟨g, i, none⟩) hg u)
end
theorem setFrom_size {g : Nat} : ∀ (us : List Value) (i : Nat) (w : World), (setFrom w g i us).heap.size = w.heap.size := by
  intro us
  induction us with
  | nil => intro i w; rfl
  | cons u us ih => intro i w; rw [setFrom, ih]; simp [World.setCell]
structure Flt where
  a : Nat
  s : Nat
  T : TypeId
  Z : Array Value
  PS : Array Value → World → Prop
structure Own where
  g : Nat
  s : Nat
  o : Nat
  T : TypeId
  Z : Array Value
  PS : Array Value → World → Prop
def upd (x : Nat → Value) (i : Nat) (v : Value) : Nat → Value := fun j => if j = i then v else x j
theorem upd_same (x : Nat → Value) (i : Nat) (v : Value) : upd x i v i = v := by simp [upd]
theorem upd_ne (x : Nat → Value) {i j : Nat} (v : Value) (h : j ≠ i) : upd x i v j = x j := by simp [upd, h]

def LinA (ops : Array Oper) (fr : (Nat → Value) → Act) (R : Nat → Value → World → Prop) (es : List Flt) (ow : List Own) (B : Nat) (W : World) (L : Array Bool) (a : Act) (w : World) : Prop :=
  ∃ x, a = fr x ∧ (Kp W w ∧ Below B W w) ∧ (∀ i, L.getD i false = true → R i (x i) w) ∧
  (∀ i o, ops[i]? = some o → L.getD i false = true → ∀ e ∈ o.after, Region.binds .any e = true → L.getD e.on false = true) ∧
  (∀ f ∈ es, L.getD f.a false = true → ∃ g c, x f.a = .pointer (some ⟨g, 0, none⟩) ∧ W.heap.size ≤ g ∧ Blk w g f.T c ∧ (L.getD f.s false = false → c = f.Z) ∧ (L.getD f.s false = true → f.PS c w)) ∧
  (∀ f ∈ es, ∀ f' ∈ es, f.a ≠ f'.a → L.getD f.a false = true → L.getD f'.a false = true → x f.a ≠ x f'.a) ∧
  (∀ f ∈ ow, ∃ c, Blk w f.g f.T c ∧ (L.getD f.s false = false → c = f.Z) ∧ (L.getD f.s false = true → f.PS c w))

section
variable (P : Program) (ops : Array Oper) (Q : Exit → Act → World → Prop) (fr : (Nat → Value) → Act) (R : Nat → Value → World → Prop) (es : List Flt) (ow : List Own) (B : Nat) (W : World)
def ValStep (i : Nat) (o : Oper) : Prop := (∀ f ∈ es, i ≠ f.a ∧ i ≠ f.s) ∧ (∀ f ∈ ow, i ≠ f.s) ∧
  ∀ x w, Kp W w → (∀ f ∈ ow, (∀ o', ops[f.s]? = some o' → ∃ e ∈ o'.after, Region.binds .any e = true ∧ e.on = i) → Blk w f.g f.T f.Z) → (∀ e ∈ o.after, Region.binds .any e = true → R e.on (x e.on) w) → ∀ K' : Act → World → Prop, Shut (∀ v w', R i v w' → Below w.heap.size w w' → K' ((fr x).put o.dst v) w') →
    if Region.wanted o (yielded ops (fr x).tmps) = true then Oper.wp P o (fr x) w K' Q else K' ((fr x).put o.dst undef) w
def AllocStep (i : Nat) (o : Oper) : Prop := ∃ f ∈ es, i = f.a ∧ (∀ f' ∈ es, i ≠ f'.s) ∧ (∀ f' ∈ ow, i ≠ f'.s) ∧ (∀ f' ∈ es, f'.a = i → f' = f) ∧ (∀ v w, R i v w) ∧
  ∀ x w, ∀ K' : Act → World → Prop, Shut (K' ((fr x).put o.dst (.pointer (some ⟨w.heap.size, 0, none⟩))) (w.alloc (.cells f.Z f.T))) →
    if Region.wanted o (yielded ops (fr x).tmps) = true then Oper.wp P o (fr x) w K' Q else K' ((fr x).put o.dst undef) w
def StoreStep (i : Nat) (o : Oper) : Prop := ∃ f ∈ es, i = f.s ∧ (∀ f' ∈ es, i ≠ f'.a) ∧ (∀ f' ∈ ow, i ≠ f'.s) ∧ (∀ f' ∈ es, f'.s = i → f' = f) ∧ (∀ f' ∈ es, f'.a = f.a → f' = f) ∧ KT f.T = false ∧ (∀ v w, R i v w) ∧ (∃ e ∈ o.after, Region.binds .any e = true ∧ e.on = f.a) ∧
  ∀ x w g, x f.a = .pointer (some ⟨g, 0, none⟩) → Blk w g f.T f.Z → (∀ e ∈ o.after, Region.binds .any e = true → R e.on (x e.on) w) →
    ∃ us, (∀ w', Kp w w' → f.PS (setL f.Z 0 us) w') ∧ ∀ K' : Act → World → Prop, Shut (∀ v, K' ((fr x).put o.dst v) (setFrom w g 0 us)) →
      if Region.wanted o (yielded ops (fr x).tmps) = true then Oper.wp P o (fr x) w K' Q else K' ((fr x).put o.dst undef) w
def OwnStep (i : Nat) (o : Oper) : Prop := ∃ f ∈ ow, i = f.s ∧ (∀ f' ∈ es, i ≠ f'.a ∧ i ≠ f'.s) ∧ (∀ f' ∈ ow, f'.s = i → f' = f) ∧ KT f.T = false ∧ (∀ v w, R i v w) ∧
  ∀ x w, Blk w f.g f.T f.Z → (∀ e ∈ o.after, Region.binds .any e = true → R e.on (x e.on) w) →
    ∃ us, (∀ w', Kp w w' → f.PS (setL f.Z f.o us) w') ∧ ∀ K' : Act → World → Prop, Shut (∀ v, K' ((fr x).put o.dst v) (setFrom w f.g f.o us)) →
      if Region.wanted o (yielded ops (fr x).tmps) = true then Oper.wp P o (fr x) w K' Q else K' ((fr x).put o.dst undef) w
end
theorem getD_set {L : Array Bool} {i j : Nat} (hi : i < L.size) : (L.setIfInBounds i true).getD j false = (decide (j = i) || L.getD j false) := by
  rw [Array.getD_eq_getD_getElem?, Array.getD_eq_getD_getElem?, Array.getElem?_setIfInBounds]
  by_cases h : i = j
  · subst h; simp [hi]
  · rw [if_neg h]; simp [show ¬ j = i from fun e => h e.symm]
section
variable {P : Program} {ops : Array Oper} {Q : Exit → Act → World → Prop} {fr : (Nat → Value) → Act} {R : Nat → Value → World → Prop} {es : List Flt} {ow : List Own} {B : Nat}
theorem wp_region_lin {id : Nat} {w : World} {x0 : Nat → Value} (hm : P.follows .mixedOrders = true)
    (hput : ∀ i o, ops[i]? = some o → ∀ x v, (fr x).put o.dst v = fr (upd x i v))
    (hac : ∀ i o, ops[i]? = some o → ∀ e ∈ o.after, Region.binds .any e = true → e.on < i)
    (hR : ∀ i v w w', R i v w → Kp w w' → R i v w')
    (hPS : ∀ f ∈ es, ∀ c w w', f.PS c w → Kp w w' → f.PS c w')
    (hPO : ∀ f ∈ ow, ∀ c w w', f.PS c w → Kp w w' → f.PS c w')
    (hfs : ∀ f ∈ es, f.a < ops.size ∧ f.s < ops.size)
    (hB : B ≤ w.heap.size)
    (hO : ∀ f ∈ ow, Blk w f.g f.T f.Z ∧ B ≤ f.g)
    (hOd : ∀ f ∈ ow, ∀ f' ∈ ow, f.g = f'.g → f = f')
    (hstep : ∀ i o, ops[i]? = some o → ValStep P ops Q fr R es ow w i o ∨ AllocStep P ops Q fr R es ow i o ∨ StoreStep P ops Q fr R es ow i o ∨ OwnStep P ops Q fr R es ow i o)
    (hend : ∀ x w', Kp w w' → Below B w w' → w.heap.size ≤ w'.heap.size → (∀ f ∈ ow, ∃ c, Blk w' f.g f.T c ∧ (ops.size ≤ f.s → c = f.Z) ∧ (f.s < ops.size → f.PS c w')) → (∀ i, i < ops.size → R i (x i) w') → (∀ f ∈ es, ∃ g c, x f.a = .pointer (some ⟨g, 0, none⟩) ∧ w.heap.size ≤ g ∧ Blk w' g f.T c ∧ f.PS c w') → (∀ f ∈ es, ∀ f' ∈ es, f.a ≠ f'.a → x f.a ≠ x f'.a) → Q .normal (fr x) w') :
    (Code.region id ops true).wp P Q (fr x0) w := by
  refine wp_region_any hm (wpAny_inv (fun L a w' => w.heap.size ≤ w'.heap.size ∧ LinA ops fr R es ow B w L a w') ?_ ?_ _ _ _ _ (by simp) ?_ ?_)
  · rintro L a w1 i hs hi ⟨hsz, x, rfl, ⟨hkW, hb⟩, hr, hcl, hf, hd, how⟩
    obtain ⟨hun, o, ho, hall⟩ := mem_ready.1 hi
    have hlt : i < L.size := by
      rcases Nat.lt_or_ge i L.size with h | h
      · exact h
      · rw [Array.getD_eq_getD_getElem?, Array.getElem?_eq_none h] at hun; cases hun
    have hunf : L.getD i false = false := by
      rw [Array.getD_eq_getD_getElem?, Array.getElem?_eq_getElem hlt] at hun ⊢; exact hun
    have hdep : ∀ e ∈ o.after, Region.binds .any e = true → R e.on (x e.on) w1 := fun e he hbd => hr _ (hall e he hbd)
    have hcl' : ∀ i' o', ops[i']? = some o' → (L.setIfInBounds i true).getD i' false = true → ∀ e ∈ o'.after, Region.binds .any e = true → (L.setIfInBounds i true).getD e.on false = true := by
      intro i' o' ho' hl e he hbd
      rw [getD_set hlt] at hl ⊢
      by_cases h : i' = i
      · subst h; rw [ho] at ho'; injection ho' with ho'; subst ho'
        rw [hall e he hbd]; simp
      · have : L.getD i' false = true := by simpa [h] using hl
        rw [hcl i' o' ho' this e he hbd]; simp
    refine wpOp_step ho fun K' hK => ?_
    have hsno : ∀ f ∈ ow, (∀ o', ops[f.s]? = some o' → ∃ e ∈ o'.after, Region.binds .any e = true ∧ e.on = i) → Blk w1 f.g f.T f.Z := by
      intro f hfo hdd
      obtain ⟨c, c1, c2, _⟩ := how f hfo
      have : L.getD f.s false = false := by
        cases h : L.getD f.s false
        · rfl
        · exfalso
          have hlt2 : f.s < ops.size := by
            rcases Nat.lt_or_ge f.s L.size with h2 | h2
            · omega
            · rw [Array.getD_eq_getD_getElem?, Array.getElem?_eq_none h2] at h; cases h
          obtain ⟨e, he, hbd, hea⟩ := hdd _ (Array.getElem?_eq_getElem hlt2)
          have := hcl f.s _ (Array.getElem?_eq_getElem hlt2) h e he hbd
          rw [hea, hunf] at this; cases this
      rw [← c2 this]; exact c1
    have howk : ∀ w', Kp w1 w' → (∀ g t c, Blk w1 g t c → (∃ f ∈ ow, f.g = g) → Blk w' g t c) → (∀ f ∈ ow, i ≠ f.s) → ∀ f ∈ ow, ∃ c, Blk w' f.g f.T c ∧ ((L.setIfInBounds i true).getD f.s false = false → c = f.Z) ∧ ((L.setIfInBounds i true).getD f.s false = true → f.PS c w') := by
      intro w' hkp hbl hne f hfo
      obtain ⟨c, c1, c2, c3⟩ := how f hfo
      have n2 := hne f hfo
      refine ⟨c, hbl _ _ _ c1 ⟨f, hfo, rfl⟩, fun h => c2 ?_, fun h => hPO f hfo _ _ _ (c3 ?_) hkp⟩
      · rw [getD_set hlt] at h; simpa [Ne.symm n2] using h
      · rw [getD_set hlt] at h; simpa [Ne.symm n2] using h
    rcases hstep i o ho with ⟨hno, hnow, hv⟩ | ⟨f, hf1, rfl, hnos, hnow, huniq, hRi, hv⟩ | ⟨f, hf1, rfl, hnoa, hnow, huniq, huniqa, hT, hRi, ⟨e, he, hbd, hea⟩, hv⟩ | ⟨f, hf1, rfl, hnoe, huniq, hT, hRi, hv⟩
    · refine hv x w1 hkW hsno hdep K' (fun v w' hRv hbw => hK _ _ ?_)
      have hkp : Kp w1 w' := (Kp.refl w1).below hbw
      refine ⟨Nat.le_trans hsz hbw.size, upd x i v, hput i o ho x v, ⟨hkW.trans hkp, hb.trans (hbw.mono (Nat.le_trans hB hsz))⟩, fun j hj => ?_, hcl', fun f hfe hfa => ?_, fun f hfe f' hfe' hne h1 h2 => ?_, howk w' hkp (fun g t c h _ => h.below hbw h.lt) hnow⟩
      · by_cases h : j = i
        · subst h; rw [upd_same]; exact hRv
        · rw [upd_ne _ _ h]; rw [getD_set hlt] at hj; exact hR _ _ _ _ (hr j (by simpa [h] using hj)) hkp
      · rw [getD_set hlt] at hfa
        have n1 := (hno f hfe).1
        have n2 := (hno f hfe).2
        rw [upd_ne _ _ (Ne.symm n1)]
        obtain ⟨g, c, e1, e2, e3, e4, e5⟩ := hf f hfe (by simpa [Ne.symm n1] using hfa)
        refine ⟨g, c, e1, e2, e3.below hbw e3.lt, fun h => e4 ?_, fun h => hPS f hfe _ _ _ (e5 ?_) hkp⟩
        · rw [getD_set hlt] at h; simpa [Ne.symm n2] using h
        · rw [getD_set hlt] at h; simpa [Ne.symm n2] using h
      · rw [getD_set hlt] at h1 h2
        have n1 := (hno f hfe).1
        have n2 := (hno f' hfe').1
        rw [upd_ne _ _ (Ne.symm n1), upd_ne _ _ (Ne.symm n2)]
        exact hd f hfe f' hfe' hne (by simpa [Ne.symm n1] using h1) (by simpa [Ne.symm n2] using h2)
    · refine hv x w1 K' (hK _ _ ?_)
      have hkp : Kp w1 (w1.alloc (.cells f.Z f.T)) := (Kp.refl w1).alloc _
      have hsl : L.getD f.s false = false := by
        cases h : L.getD f.s false
        · rfl
        · exfalso
          obtain ⟨o', ho'⟩ : ∃ o', ops[f.s]? = some o' := ⟨_, Array.getElem?_eq_getElem (hfs f hf1).2⟩
          rcases hstep f.s o' ho' with ⟨hno, _⟩ | ⟨f2, hf2, e2, hnos2, _⟩ | ⟨f2, hf2, e2, _, _, hu2, _, _, _, ⟨e, he, hbd, hea⟩, _⟩ | ⟨f2, hf2, e2, hno2, _⟩
          · exact (hno f hf1).2 rfl
          · exact hnos2 f hf1 rfl
          · have := hu2 f hf1 rfl
            subst this
            have := hcl f.s o' ho' h e he hbd
            rw [hea] at this
            rw [this] at hunf; cases hunf
          · exact (hno2 f hf1).2 rfl
      refine ⟨by simp; omega, upd x f.a _, hput f.a o ho x _, ⟨hkW.alloc _, hb.alloc (Nat.le_trans hB hsz) _⟩, fun j hj => ?_, hcl', fun f' hfe hfa => ?_, fun f1 hfe f2 hfe' hne h1 h2 => ?_, howk _ hkp (fun g t c h _ => h.alloc _) hnow⟩
      · by_cases h : j = f.a
        · subst h; exact hRi _ _
        · rw [upd_ne _ _ h]; rw [getD_set hlt] at hj; exact hR _ _ _ _ (hr j (by simpa [h] using hj)) hkp
      · by_cases h : f'.a = f.a
        · have := huniq f' hfe h
          subst this
          rw [upd_same]
          refine ⟨_, _, rfl, hsz, Blk.new _ _ _, fun _ => rfl, fun h' => ?_⟩
          rw [getD_set hlt, hsl] at h'
          have : f'.s = f'.a := by simpa using h'
          exact absurd this.symm (hnos f' hfe)
        · rw [upd_ne _ _ h]
          rw [getD_set hlt] at hfa
          have n2 := hnos f' hfe
          obtain ⟨g, c, e1, e2, e3, e4, e5⟩ := hf f' hfe (by simpa [h] using hfa)
          refine ⟨g, c, e1, e2, e3.alloc _, fun h => e4 ?_, fun h => hPS f' hfe _ _ _ (e5 ?_) hkp⟩
          · rw [getD_set hlt] at h; simpa [Ne.symm n2] using h
          · rw [getD_set hlt] at h; simpa [Ne.symm n2] using h
      · rw [getD_set hlt] at h1 h2
        have fresh : ∀ f3 ∈ es, f3.a ≠ f.a → L.getD f3.a false = true → x f3.a ≠ .pointer (some ⟨w1.heap.size, 0, none⟩) := by
          intro f3 h3 hne3 hl3 heq
          obtain ⟨g, c, e1, e2, e3, _⟩ := hf f3 h3 hl3
          rw [e1] at heq
          have hg := e3.lt
          injection heq with heq; injection heq with heq; injection heq with heq
          omega
        by_cases c1 : f1.a = f.a
        · have c2 : f2.a ≠ f.a := fun h => hne (c1.trans h.symm)
          rw [c1, upd_same, upd_ne _ _ c2]
          exact (fresh f2 hfe' c2 (by simpa [c2] using h2)).symm
        · rw [upd_ne _ _ c1]
          by_cases c2 : f2.a = f.a
          · rw [c2, upd_same]; exact fresh f1 hfe c1 (by simpa [c1] using h1)
          · rw [upd_ne _ _ c2]; exact hd f1 hfe f2 hfe' hne (by simpa [c1] using h1) (by simpa [c2] using h2)
    · have hal : L.getD f.a false = true := by rw [← hea]; exact hall e he hbd
      obtain ⟨g, c, e1, e2, e3, e4, e5⟩ := hf f hf1 hal
      have hc := e4 hunf
      subst hc
      obtain ⟨us, hus, hv⟩ := hv x w1 g e1 e3 hdep
      refine hv K' (fun v => hK _ _ ?_)
      have hkp : Kp w1 (setFrom w1 g 0 us) := setFrom_kp hT us 0 w1 _ e3
      have hnb : ∀ f3 ∈ es, f3.a ≠ f.s := fun f3 h3 h => hnoa f3 h3 h.symm
      refine ⟨Nat.le_trans hsz (Nat.le_of_eq (setFrom_size us 0 w1).symm), upd x f.s v, hput f.s o ho x v, ⟨hkW.trans hkp, setFrom_below (Nat.le_trans hB e2) us 0 w1 hb⟩, fun j hj => ?_, hcl', fun f' hfe hfa => ?_, fun f1 hfe f2 hfe' hne h1 h2 => ?_, howk _ hkp (fun g2 t c h hex => setFrom_far (by obtain ⟨f2, h2, rfl⟩ := hex; have := (hO f2 h2).1.lt; omega) us 0 w1 h) hnow⟩
      · by_cases h : j = f.s
        · subst h; exact hRi _ _
        · rw [upd_ne _ _ h]; rw [getD_set hlt] at hj; exact hR _ _ _ _ (hr j (by simpa [h] using hj)) hkp
      · rw [upd_ne _ _ (hnb f' hfe)]
        rw [getD_set hlt] at hfa
        by_cases h : f'.a = f.a
        · have := huniqa f' hfe h
          subst this
          refine ⟨g, _, e1, e2, setFrom_blk us 0 w1 _ e3, fun h' => ?_, fun _ => hus _ hkp⟩
          rw [getD_set hlt] at h'; simp at h'
        · have n2 : f'.s ≠ f.s := fun h2 => h (by rw [huniq f' hfe h2])
          obtain ⟨g', c', d1, d2, d3, d4, d5⟩ := hf f' hfe (by simpa [hnb f' hfe] using hfa)
          have hgg : g' ≠ g := by
            rintro rfl
            exact hd f' hfe f hf1 h (by simpa [hnb f' hfe] using hfa) hal (d1.trans e1.symm)
          refine ⟨g', c', d1, d2, setFrom_far hgg us 0 w1 d3, fun h => d4 ?_, fun h => hPS f' hfe _ _ _ (d5 ?_) hkp⟩
          · rw [getD_set hlt] at h; simpa [n2] using h
          · rw [getD_set hlt] at h; simpa [n2] using h
      · rw [getD_set hlt] at h1 h2
        rw [upd_ne _ _ (hnb f1 hfe), upd_ne _ _ (hnb f2 hfe')]
        exact hd f1 hfe f2 hfe' hne (by simpa [hnb f1 hfe] using h1) (by simpa [hnb f2 hfe'] using h2)
    · obtain ⟨c, c1, c2, _⟩ := how f hf1
      have hc := c2 hunf
      subst hc
      obtain ⟨us, hus, hv⟩ := hv x w1 c1 hdep
      refine hv K' (fun v => hK _ _ ?_)
      have hkp : Kp w1 (setFrom w1 f.g f.o us) := setFrom_kp hT us f.o w1 _ c1
      have hna : ∀ f3 ∈ es, f3.a ≠ f.s := fun f3 h3 h => (hnoe f3 h3).1 h.symm
      have hns : ∀ f3 ∈ es, f3.s ≠ f.s := fun f3 h3 h => (hnoe f3 h3).2 h.symm
      have hgl := (hO f hf1).1.lt
      refine ⟨Nat.le_trans hsz (Nat.le_of_eq (setFrom_size us f.o w1).symm), upd x f.s v, hput f.s o ho x v, ⟨hkW.trans hkp, setFrom_below (hO f hf1).2 us f.o w1 hb⟩, fun j hj => ?_, hcl', fun f' hfe hfa => ?_, fun f1 hfe f2 hfe' hne h1 h2 => ?_, fun f' hfo => ?_⟩
      · by_cases h : j = f.s
        · subst h; exact hRi _ _
        · rw [upd_ne _ _ h]; rw [getD_set hlt] at hj; exact hR _ _ _ _ (hr j (by simpa [h] using hj)) hkp
      · rw [upd_ne _ _ (hna f' hfe)]
        rw [getD_set hlt] at hfa
        have n2 := hns f' hfe
        obtain ⟨g', c', d1, d2, d3, d4, d5⟩ := hf f' hfe (by simpa [hna f' hfe] using hfa)
        refine ⟨g', c', d1, d2, setFrom_far (by omega) us f.o w1 d3, fun h => d4 ?_, fun h => hPS f' hfe _ _ _ (d5 ?_) hkp⟩
        · rw [getD_set hlt] at h; simpa [n2] using h
        · rw [getD_set hlt] at h; simpa [n2] using h
      · rw [getD_set hlt] at h1 h2
        rw [upd_ne _ _ (hna f1 hfe), upd_ne _ _ (hna f2 hfe')]
        exact hd f1 hfe f2 hfe' hne (by simpa [hna f1 hfe] using h1) (by simpa [hna f2 hfe'] using h2)
      · by_cases h : f'.s = f.s
        · have := huniq f' hfo h
          subst this
          refine ⟨_, setFrom_blk us f'.o w1 _ c1, fun h' => ?_, fun _ => hus _ hkp⟩
          rw [getD_set hlt] at h'; simp at h'
        · obtain ⟨c', d3, d4, d5⟩ := how f' hfo
          have hgg : f'.g ≠ f.g := fun h2 => h (by rw [hOd f' hfo f hf1 h2])
          refine ⟨c', setFrom_far hgg us f.o w1 d3, fun h2 => d4 ?_, fun h2 => hPO f' hfo _ _ _ (d5 ?_) hkp⟩
          · rw [getD_set hlt] at h2; simpa [h] using h2
          · rw [getD_set hlt] at h2; simpa [h] using h2
  · rintro L a w1 hs hr0 ⟨hsz, x, rfl, ⟨hkW, hb⟩, hr, hcl, hf, hd, how⟩
    have hallL : ∀ i, i < ops.size → L.getD i false = true := by
      intro i
      induction i using Nat.strongRecOn with
      | ind i ih =>
        intro hi
        cases h : L.getD i false
        · exfalso
          have : i ∈ Region.ready .any ops L := by
            refine mem_ready.2 ⟨?_, ops[i], Array.getElem?_eq_getElem hi, fun e he hbd => ?_⟩
            · rw [Array.getD_eq_getD_getElem?, Array.getElem?_eq_getElem (by omega)] at h ⊢; exact h
            · have h1 := hac i _ (Array.getElem?_eq_getElem hi) e he hbd
              exact ih e.on h1 (by omega)
          rw [hr0] at this; cases this
        · rfl
    refine hend x w1 hkW hb hsz (fun f hfo => ?_) (fun i hi => hr i (hallL i hi)) (fun f hfe => ?_) (fun f hfe f' hfe' hne => hd f hfe f' hfe' hne (hallL _ (hfs f hfe).1) (hallL _ (hfs f' hfe').1))
    · obtain ⟨c, c1, c2, c3⟩ := how f hfo
      refine ⟨c, c1, fun h => c2 ?_, fun h => c3 (hallL _ h)⟩
      rw [Array.getD_eq_getD_getElem?, Array.getElem?_eq_none (by omega)]; rfl
    obtain ⟨g, c, e1, e2, e3, _, e5⟩ := hf f hfe (hallL _ (hfs f hfe).1)
    exact ⟨g, c, e1, e2, e3, e5 (hallL _ (hfs f hfe).2)⟩
  · simp
  · have hz : ∀ j, (Array.replicate ops.size false).getD j false = false := by
      intro j; rw [Array.getD_eq_getD_getElem?, Array.getElem?_replicate]; split <;> rfl
    refine ⟨Nat.le_refl _, x0, rfl, ⟨(Kp.refl w).drew, (Below.refl B w).drew⟩, fun i h => ?_, fun i o _ h => ?_, fun f _ h => ?_, fun f _ f' _ _ h => ?_, fun f hfo => ⟨_, (hO f hfo).1.drew, fun _ => rfl, fun h => ?_⟩⟩ <;> rw [hz] at h <;> cases h
end

theorem ownDist {ow : List Own} (h : ow.Pairwise (fun f f' => f.g ≠ f'.g)) : ∀ f ∈ ow, ∀ f' ∈ ow, f.g = f'.g → f = f' := by
  induction ow with
  | nil => intro f hf; cases hf
  | cons a l ih =>
    obtain ⟨h1, h2⟩ := List.pairwise_cons.1 h
    intro f hf f' hf' he
    rcases List.mem_cons.1 hf with h3 | h3
    · rcases List.mem_cons.1 hf' with h4 | h4
      · rw [h3, h4]
      · exact absurd (h3 ▸ he) (h1 _ h4)
    · rcases List.mem_cons.1 hf' with h4 | h4
      · exact absurd (h4 ▸ he).symm (h1 _ h3)
      · exact ih h2 f h3 f' h4 he
def EachFrom (S : Nat → Oper → Prop) : Nat → List Oper → Prop
  | _, [] => True
  | k, o :: l => S k o ∧ EachFrom S (k + 1) l
theorem each_from {S : Nat → Oper → Prop} : ∀ (l : List Oper) (k : Nat), EachFrom S k l → ∀ i o, l[i]? = some o → S (k + i) o := by
  intro l
  induction l with
  | nil => intro k _ i o h; simp at h
  | cons a l ih =>
    intro k h i o ho
    cases i with
    | zero => simp at ho; subst ho; exact h.1
    | succ i =>
      have := ih (k + 1) h.2 i o (by simpa using ho)
      rw [show k + (i + 1) = k + 1 + i by omega]; exact this
theorem each_of {S : Nat → Oper → Prop} {l : List Oper} (h : EachFrom S 0 l) : ∀ i o, (l.toArray)[i]? = some o → S i o := fun i o ho => by
  have := each_from l 0 h i o (by simpa using ho)
  rwa [Nat.zero_add] at this
def acycB : Nat → List Oper → Bool
  | _, [] => true
  | k, o :: l => o.after.all (fun e => !Region.binds .any e || decide (e.on < k)) && acycB (k + 1) l
theorem acyc_from : ∀ (l : List Oper) (k : Nat), acycB k l = true → EachFrom (fun i o => ∀ e ∈ o.after, Region.binds .any e = true → e.on < i) k l := by
  intro l
  induction l with
  | nil => intro k _; trivial
  | cons a l ih =>
    intro k h
    simp only [acycB, Bool.and_eq_true] at h
    refine ⟨fun e he hb => ?_, ih _ h.2⟩
    have := (Array.all_eq_true_iff_forall_mem.1 h.1) e he
    rw [hb] at this
    simpa using this
def Stab (p : Value → World → Prop) : Prop := ∀ v w w', p v w → Kp w w' → p v w'
def AllStab : List (Value → World → Prop) → Prop
  | [] => True
  | p :: l => Stab p ∧ AllStab l
theorem AllStab.get : ∀ (l : List (Value → World → Prop)), AllStab l → ∀ i v w w', l.getD i (fun _ _ => True) v w → Kp w w' → l.getD i (fun _ _ => True) v w' := by
  intro l
  induction l with
  | nil => intro _ i v w w' _ _; simp
  | cons p l ih =>
    intro h i v w w' hp hk
    cases i with
    | zero => exact h.1 v w w' hp hk
    | succ i => exact ih h.2 i v w w' hp hk
def PEq (u : Value) : Value → World → Prop := fun v _ => v = u
def PAny : Value → World → Prop := fun _ _ => True
def VI (z : Int) (k : Nat) : Value → World → Prop := fun v w => ∃ b A n c, v = .agg #[.bool b, .slice A n c] ∧ IV w b A n c z k
def VQ (q : Rat) (k : Nat) : Value → World → Prop := fun v w => ∃ b A n c D m e, v = .agg #[.bool b, .slice A n c, .slice D m e] ∧ QV w b A n c D m e q k
def VT (t : TN) (k : Nat) : Value → World → Prop := fun v w => ∃ b A n c D m e x, v = .agg #[.bool b, .slice A n c, .slice D m e, .bool x] ∧ TV w b A n c D m e x t k
theorem stEq (u : Value) : Stab (PEq u) := fun _ _ _ h _ => h
theorem stAny : Stab PAny := fun _ _ _ h _ => h
theorem stI (z : Int) (k : Nat) : Stab (VI z k) := fun _ _ _ ⟨b, A, n, c, e, h⟩ hk => ⟨b, A, n, c, e, h.keep hk⟩
theorem stQ (q : Rat) (k : Nat) : Stab (VQ q k) := fun _ _ _ ⟨b, A, n, c, D, m, e, h0, h⟩ hk => ⟨b, A, n, c, D, m, e, h0, h.keep hk⟩
theorem stT (t : TN) (k : Nat) : Stab (VT t k) := fun _ _ _ ⟨b, A, n, c, D, m, e, x, h0, h⟩ hk => ⟨b, A, n, c, D, m, e, x, h0, h.keep hk⟩
def CQ (q : Rat) (k : Nat) : Array Value → World → Prop := fun v w => ∃ b A n c D m e, v = #[.bool b, .slice A n c, .slice D m e] ∧ QV w b A n c D m e q k
def CT (t : TN) (k : Nat) : Array Value → World → Prop := fun v w => ∃ b A n c D m e x, v = #[.bool b, .slice A n c, .slice D m e, .bool x] ∧ TV w b A n c D m e x t k
def CI (z : Int) (k : Nat) : Array Value → World → Prop := fun v w => ∃ b A n c, v = #[.bool b, .slice A n c] ∧ IV w b A n c z k
theorem scI (z : Int) (k : Nat) : ∀ c w w', CI z k c w → Kp w w' → CI z k c w' := fun _ _ _ ⟨b, A, n, c, h0, h⟩ hk => ⟨b, A, n, c, h0, h.keep hk⟩
def CAny : Array Value → World → Prop := fun _ _ => True
theorem scAny : ∀ c w w', CAny c w → Kp w w' → CAny c w' := fun _ _ _ h _ => h
theorem scQ (q : Rat) (k : Nat) : ∀ c w w', CQ q k c w → Kp w w' → CQ q k c w' := fun _ _ _ ⟨b, A, n, c, D, m, e, h0, h⟩ hk => ⟨b, A, n, c, D, m, e, h0, h.keep hk⟩
theorem scT (t : TN) (k : Nat) : ∀ c w w', CT t k c w → Kp w w' → CT t k c w' := fun _ _ _ ⟨b, A, n, c, D, m, e, x, h0, h⟩ hk => ⟨b, A, n, c, D, m, e, x, h0, h.keep hk⟩
def PV (w : World) (b : Bool) (A : Option Addr) (n c : Nat) (D : Option Addr) (m e : Nat) (b' : Bool) (A' : Option Addr) (n' c' : Nat) (D' : Option Addr) (m' e' : Nat) (q : Rat) (k : Nat) (r : Rat) (j : Nat) : Prop := QV w b A n c D m e q k ∧ QV w b' A' n' c' D' m' e' r j
theorem PV.keep {w w' : World} {b b' : Bool} {A D A' D' : Option Addr} {n c m e n' c' m' e' k j : Nat} {q r : Rat} (h : PV w b A n c D m e b' A' n' c' D' m' e' q k r j) (hk : Kp w w') : PV w' b A n c D m e b' A' n' c' D' m' e' q k r j := ⟨h.1.keep hk, h.2.keep hk⟩
theorem PV.belw {w w' : World} {b b' : Bool} {A D A' D' : Option Addr} {n c m e n' c' m' e' k j : Nat} {q r : Rat} (h : PV w b A n c D m e b' A' n' c' D' m' e' q k r j) (hk : Below w.heap.size w w') : PV w' b A n c D m e b' A' n' c' D' m' e' q k r j := ⟨h.1.belw hk, h.2.belw hk⟩
theorem TV.frac {w : World} {b : Bool} {A D : Option Addr} {n c m e k : Nat} {q : Rat} (h : QV w b A n c D m e q k) : TV w b A n c D m e false ⟨q, false⟩ k := ⟨h, rfl, fun h => nomatch h⟩
end Go.Proofs.YtianjkiakkclgaaGreatDoor

/- Walks: turns. -/
namespace Go.Proofs.YtianjkiakkclgaaGreatDoor
open Go Go.RowKit Bn
attribute [local go_sem ↓] Go.wp_at_zero Go.wp_at_succ
theorem t_over (w : World) (b A n c D m e q k) (h : QZ w b A n c D m e q k) (b' A' n' c' D' m' e' q' k') (h' : QZ w b' A' n' c' D' m' e' q' k') (h0 : 0 < k) (hk : k ≤ 40000000) (h0' : 0 < k') (hk' : k' ≤ 40000000) (hne : q' ≠ 0) :
  Calls Tryz.prog 28 #[.agg #[.bool b, .slice A n c, .slice D m e], .agg #[.bool b', .slice A' n' c', .slice D' m' e']] w (RetF w (q / q') (k + k')) := by
 have HN := Lib.hid hne
 clear hne
 go_enter Tryz.func28, Tryz.ntmps28
 go_wp2_with fail
 (with_reducible refine (f_div _ b A n c D m e (q) (k) ?_ b' A' n' c' D' m' e' (q') (k') ?_ ?_ ?_ ?_ ?_ ?_).mono ?_); (exact (h.belw ((((Below.refl _ _).alloc (Nat.le_refl _) _).alloc (by simp) _).alloc (by simp <;> omega) _))); (exact (h'.belw ((((Below.refl _ _).alloc (Nat.le_refl _) _).alloc (by simp) _).alloc (by simp <;> omega) _))); (omega); (omega); (omega); (omega); (exact HN.out); rintro e w1 ⟨b1, A1, n1, c1, A'1, n'1, c'1, rfl, h1, hb1⟩
 have q1 := hb1.q3
 replace h := h.belw q1
 replace h' := h'.belw q1
 have x1a : Blk w1 w.heap.size 24 #[.bool b, .slice A n c, .slice D m e] := (((blkAt _ _ _ (by simp)).alloc _).alloc _).below hb1 (by simp <;> omega)
 have x1b := ((blkAt _ _ _ (g := w.heap.size + 1) (by simp)).alloc _).below hb1 (by simp <;> omega)
 have x1c := (blkAt _ _ _ (g := w.heap.size + 1 + 1) (by simp)).below hb1 (by simp)
 have bw1 := (brefl w).trans (q1.mono (brefl w).size)
 have lw1 := hb1.l3
 clear q1
 have cx1c := x1c.c3
 have fx1c := x1c.f3
 have lx1c := lts2 x1c.lt
 go_wp2_with fail
 refine bodyPost_ret (v := .agg #[.bool b1, .slice A1 n1 c1, .slice A'1 n'1 c'1]) (by simp [results, Tryz.results28, go_sem, *] <;> trivial) rfl ?_
 exact ⟨b1, A1, n1, c1, A'1, n'1, c'1, rfl, h1.keep (((((Kp.refl w1).sb (w.heap.size + 1 + 1) 0 x1c.box (by decide) (.bool b1)).sb (w.heap.size + 1 + 1) 1 (x1c.box.set ⟨w.heap.size + 1 + 1, 0, none⟩ (.bool b1)) (by decide) (.slice A1 n1 c1)).sb (w.heap.size + 1 + 1) 2 ((x1c.box.set ⟨w.heap.size + 1 + 1, 0, none⟩ (.bool b1)).set ⟨w.heap.size + 1 + 1, 1, none⟩ (.slice A1 n1 c1)) (by decide) (.slice A'1 n'1 c'1)).alloc (.cells #[.bool b1, .slice A1 n1 c1, .slice A'1 n'1 c'1] 24)), ((((bw1.sc (w.heap.size + 1 + 1) 0 (by omega) (.bool b1)).sc (w.heap.size + 1 + 1) 1 (by omega) (.slice A1 n1 c1)).sc (w.heap.size + 1 + 1) 2 (by omega) (.slice A'1 n'1 c'1)).alloc (by first | omega | (simp <;> omega)) (.cells #[.bool b1, .slice A1 n1 c1, .slice A'1 n'1 c'1] 24))⟩
theorem t_half (w : World)  :
  Calls Tryz.prog 30 #[] w (RetT w thalf 1) := by
 go_enter Tryz.func30, Tryz.ntmps30
 go_wp2_with fail
 refine bodyPost_ret (v := .agg #[.bool false, .slice none 0 0, .slice none 0 0, .bool true]) (by simp [results, Tryz.results30, go_sem, *] <;> trivial) rfl ?_
 exact ⟨false, none, 0, 0, none, 0, 0, true, rfl, ⟨QV.zero _ _, rfl, fun _ => rfl⟩, (Below.refl _ _).alloc (Nat.le_refl _) _⟩
theorem f_sign_e (w : World) (b A n c D m e q k) (h : QZ w b A n c D m e q k) (s : Int) (hs : q.num.sign = s) (h0 : 0 < k) (hk : k ≤ 40000000) : Calls Tryz.prog 27 #[.agg #[.bool b, .slice A n c, .slice D m e]] w (RetV w (.int .i64 s)) := by subst hs; exact f_sign w b A n c D m e q k h h0 hk
theorem t_check_false (w : World) (b : Bool) (A : Option Addr) (n c : Nat) (D : Option Addr) (m e : Nat) (t : TN) (k : Nat) (h : TK w b A n c D m e false t k) (h0 : 0 < k) (hk : k ≤ 1000000) :
  Calls Tryz.prog 41 #[.agg #[.bool b, .slice A n c, .slice D m e, .bool false]] w (RetV w .nilIface) := by
 obtain ⟨⟨a, ha, hq, ho⟩, hx, hok⟩ := id h
 have HO := Lib.hid ho
 have HQ := Lib.hid (show (t.t).num.sign = 0 ∨ t.h = false by cases hh : t.h; exact .inr rfl; exact .inl (by rw [hok hh]; rfl))
 have HX := Lib.hid hx
 clear hq ho hx hok
 go_enter Tryz.func41, Tryz.ntmps41
 go_wp2_with fail
 (with_reducible refine (f_valid_e _ b A n c D m e a k true ?_ ?_ ?_).mono ?_); (exact ha.belw ((Below.refl _ _).alloc (Nat.le_refl _) _)); (omega); (exact HO.out); rintro e w1 ⟨rfl, hb1⟩
 have q1 := hb1.q1
 replace h := h.belw q1
 replace ha := ha.belw q1
 have x1a : Blk w1 w.heap.size 28 #[.bool b, .slice A n c, .slice D m e, .bool false] := (blkAt _ _ _ (by simp)).below hb1 (by simp)
 have bw1 := (brefl w).trans (q1.mono (brefl w).size)
 have lw1 := hb1.l1
 clear q1
 have cx1a := x1a.c4
 have lx1a := lts0 x1a.lt
 go_wp2_with fail
 go_ret
 exact ⟨rfl, bw1⟩
theorem t_check_true (w : World) (b : Bool) (A : Option Addr) (n c : Nat) (D : Option Addr) (m e : Nat) (t : TN) (k : Nat) (h : TK w b A n c D m e true t k) (h0 : 0 < k) (hk : k ≤ 1000000) :
  Calls Tryz.prog 41 #[.agg #[.bool b, .slice A n c, .slice D m e, .bool true]] w (RetV w .nilIface) := by
 obtain ⟨⟨a, ha, hq, ho⟩, hx, hok⟩ := id h
 have HO := Lib.hid ho
 have HQ := Lib.hid (show (t.t).num.sign = 0 ∨ t.h = false by cases hh : t.h; exact .inr rfl; exact .inl (by rw [hok hh]; rfl))
 have HX := Lib.hid hx
 clear hq ho hx hok
 go_enter Tryz.func41, Tryz.ntmps41
 go_wp2_with fail
 (with_reducible refine (f_valid_e _ b A n c D m e a k true ?_ ?_ ?_).mono ?_); (exact ha.belw ((Below.refl _ _).alloc (Nat.le_refl _) _)); (omega); (exact HO.out); rintro e w1 ⟨rfl, hb1⟩
 have q1 := hb1.q1
 replace h := h.belw q1
 replace ha := ha.belw q1
 have x1a : Blk w1 w.heap.size 28 #[.bool b, .slice A n c, .slice D m e, .bool true] := (blkAt _ _ _ (by simp)).below hb1 (by simp)
 have bw1 := (brefl w).trans (q1.mono (brefl w).size)
 have lw1 := hb1.l1
 clear q1
 have cx1a := x1a.c4
 have lx1a := lts0 x1a.lt
 go_wp2_with fail
 (with_reducible refine (f_sign_e _ b A n c D m e ((t).t) (k) ?_ 0 ?_ ?_ ?_).mono ?_); (exact h.qz); (exact HQ.out.resolve_right (by rw [← HX.out]; decide)); (omega); (omega); rintro e w2 ⟨rfl, q2⟩
 clear cx1a lx1a
 replace h := h.belw q2
 replace ha := ha.belw q2
 replace x1a := x1a.b q2
 have bw2 := bw1.trans (q2.mono bw1.size)
 have lw2 := q2.size
 clear q2 bw1
 go_wp2_with fail
 go_ret
 exact ⟨rfl, bw2⟩
theorem t_check (w : World) (b : Bool) (A : Option Addr) (n c : Nat) (D : Option Addr) (m e : Nat) (x : Bool) (t : TN) (k : Nat) (h : TK w b A n c D m e x t k) (h0 : 0 < k) (hk : k ≤ 1000000) : Calls Tryz.prog 41 #[.agg #[.bool b, .slice A n c, .slice D m e, .bool x]] w (RetV w .nilIface) := by
  cases x
  · exact t_check_false w b A n c D m e t k h h0 hk
  · exact t_check_true w b A n c D m e t k h h0 hk
theorem t_direction_false (w : World) (b : Bool) (A : Option Addr) (n c : Nat) (D : Option Addr) (m e : Nat) (t : TN) (k : Nat) (h : TK w b A n c D m e false t k) (h0 : 0 < k) (hk : k ≤ 1000000) :
    Calls Tryz.prog 43 #[.agg #[.bool b, .slice A n c, .slice D m e, .bool false]] w (RetQQ w (tcos t) (tsin t) (4 * k + 4)) := by
  have HNE := Lib.hid (show ((1 : Int) : Rat) + t.t * t.t ≠ 0 from one_add_sq t.t)
  have HC := Lib.hid (show (((1 : Int) : Rat) - t.t * t.t) / (((1 : Int) : Rat) + t.t * t.t) = tcos t by unfold tcos; rw [if_neg (by rw [← h.2.1]; decide)]; rfl)
  have HS := Lib.hid (show (t.t + t.t) / (((1 : Int) : Rat) + t.t * t.t) = tsin t by unfold tsin; rw [if_neg (by rw [← h.2.1]; decide)]; rfl)
  go_enter Tryz.func43, Tryz.ntmps43
  go_wp2_with fail
  have p1 := ((((Kp.refl w).alloc (.cells #[.bool b, .slice A n c, .slice D m e, .bool false] 28)).alloc (.cells #[.bool false, .slice none 0 0, .slice none 0 0] 24)).alloc (.cells #[.bool false, .slice none 0 0, .slice none 0 0] 24))
  have bw1 := ((((brefl w).alloc (by first | omega | (simp <;> omega)) (.cells #[.bool b, .slice A n c, .slice D m e, .bool false] 28)).alloc (by first | omega | (simp <;> omega)) (.cells #[.bool false, .slice none 0 0, .slice none 0 0] 24)).alloc (by first | omega | (simp <;> omega)) (.cells #[.bool false, .slice none 0 0, .slice none 0 0] 24))
  have x1a : Blk (((w.alloc (.cells #[.bool b, .slice A n c, .slice D m e, .bool false] 28)).alloc (.cells #[.bool false, .slice none 0 0, .slice none 0 0] 24)).alloc (.cells #[.bool false, .slice none 0 0, .slice none 0 0] 24)) w.heap.size 28 #[.bool b, .slice A n c, .slice D m e, .bool false] := (((blkAt _ _ _ (by simp)).alloc (.cells #[.bool false, .slice none 0 0, .slice none 0 0] 24)).alloc (.cells #[.bool false, .slice none 0 0, .slice none 0 0] 24))
  have x1b : Blk (((w.alloc (.cells #[.bool b, .slice A n c, .slice D m e, .bool false] 28)).alloc (.cells #[.bool false, .slice none 0 0, .slice none 0 0] 24)).alloc (.cells #[.bool false, .slice none 0 0, .slice none 0 0] 24)) (w.heap.size + 1) 24 #[.bool false, .slice none 0 0, .slice none 0 0] := ((blkAt _ _ _ (by simp)).alloc (.cells #[.bool false, .slice none 0 0, .slice none 0 0] 24))
  have x1c : Blk (((w.alloc (.cells #[.bool b, .slice A n c, .slice D m e, .bool false] 28)).alloc (.cells #[.bool false, .slice none 0 0, .slice none 0 0] 24)).alloc (.cells #[.bool false, .slice none 0 0, .slice none 0 0] 24)) (w.heap.size + 1 + 1) 24 #[.bool false, .slice none 0 0, .slice none 0 0] := (blkAt _ _ _ (by simp))
  have lw1 : w.heap.size + 3 ≤ (((w.alloc (.cells #[.bool b, .slice A n c, .slice D m e, .bool false] 28)).alloc (.cells #[.bool false, .slice none 0 0, .slice none 0 0] 24)).alloc (.cells #[.bool false, .slice none 0 0, .slice none 0 0] 24)).heap.size := by simp
  generalize hE1 : (((w.alloc (.cells #[.bool b, .slice A n c, .slice D m e, .bool false] 28)).alloc (.cells #[.bool false, .slice none 0 0, .slice none 0 0] 24)).alloc (.cells #[.bool false, .slice none 0 0, .slice none 0 0] 24)) = w1 at p1 bw1 lw1 x1a x1b x1c ⊢
  clear hE1
  replace h := h.keep p1
  have cx1a := x1a.c4
  have lx1a := lts0 x1a.lt
  refine wp_region_lin (B := w.heap.size) (fr := fun xf => ⟨#[.agg #[.bool b, .slice A n c, .slice D m e, .bool false], .pointer (some ⟨w.heap.size, 0, none⟩), .pointer (some ⟨w.heap.size + 1, 0, none⟩), .pointer (some ⟨w.heap.size + 1 + 1, 0, none⟩), xf 6, xf 7, undef, .pointer (some ⟨w.heap.size, 3, none⟩), .bool false, undef, undef, xf 0, xf 1, xf 2, xf 3, xf 4, xf 5, undef, undef, undef, undef, undef, undef, undef, undef, undef, undef, undef, undef, undef, undef, undef], []⟩) (R := fun i => List.getD [VQ (((1 : Int) : Rat)) (1), PEq (.pointer (some ⟨w.heap.size, 0, none⟩)), PEq (.agg #[.bool b, .slice A n c, .slice D m e]), PEq (.pointer (some ⟨w.heap.size, 0, none⟩)), PEq (.agg #[.bool b, .slice A n c, .slice D m e]), VQ (((t).t) * ((t).t)) ((k) + (k)), PAny, PAny, PAny, PAny] i (fun _ _ => True)) (es := [⟨6, 8, 24, #[.bool false, .slice none 0 0, .slice none 0 0], CQ (((1 : Int) : Rat)) (1)⟩, ⟨7, 9, 24, #[.bool false, .slice none 0 0, .slice none 0 0], CQ (((t).t) * ((t).t)) ((k) + (k))⟩]) (ow := [⟨w.heap.size, 10, 0, 28, #[.bool b, .slice A n c, .slice D m e, .bool false], CAny⟩, ⟨w.heap.size + 1, 10, 0, 24, #[.bool false, .slice none 0 0, .slice none 0 0], CAny⟩, ⟨w.heap.size + 1 + 1, 10, 0, 24, #[.bool false, .slice none 0 0, .slice none 0 0], CAny⟩]) (x0 := fun _ => undef) (by kernel_rfl)
    (each_of ⟨fun _ _ => rfl, fun _ _ => rfl, fun _ _ => rfl, fun _ _ => rfl, fun _ _ => rfl, fun _ _ => rfl, fun _ _ => rfl, fun _ _ => rfl, fun _ _ => rfl, fun _ _ => rfl, trivial⟩) (each_of (acyc_from _ 0 (by kernel_rfl))) (AllStab.get _ ⟨stQ _ _, stEq _, stEq _, stEq _, stEq _, stQ _ _, stAny, stAny, stAny, stAny, trivial⟩)
    (fmc ⟨scQ _ _, fmc ⟨scQ _ _, fun _ h => nomatch h⟩⟩) (fmc ⟨scAny, fmc ⟨scAny, fmc ⟨scAny, fun _ h => nomatch h⟩⟩⟩) (fmc ⟨⟨by simp, by simp⟩, fmc ⟨⟨by simp, by simp⟩, fun _ h => nomatch h⟩⟩) bw1.size
    (fmc ⟨⟨x1a, by show w.heap.size ≤ w.heap.size; omega⟩, fmc ⟨⟨x1b, by show w.heap.size ≤ w.heap.size + 1; omega⟩, fmc ⟨⟨x1c, by show w.heap.size ≤ w.heap.size + 1 + 1; omega⟩, fun _ h => nomatch h⟩⟩⟩) (ownDist (by simp <;> omega))
    (each_of ⟨?_, ?_, ?_, ?_, ?_, ?_, ?_, ?_, ?_, ?_, trivial⟩) ?_
  · exact .inl ⟨by simp, by simp, fun xf wq hk hbl hd K hK => by
      (try dsimp only)
      go_simp
      go_at_call 25
      (with_reducible refine (f_of _ (1) ?_ ?_).mono ?_); (omega); (omega); rintro e wr ⟨b3, A3, n3, c3, A'3, n'3, c'3, rfl, h3, hbr⟩
      exact hK.out _ _ ⟨b3, A3, n3, c3, A'3, n'3, c'3, rfl, h3⟩ hbr⟩
  · exact .inl ⟨by simp, by simp, fun xf wq hk hbl hd K hK => by
      (try dsimp only)
      go_simp
      exact hK.out (.pointer (some ⟨w.heap.size, 0, none⟩)) _ rfl (brefl _)⟩
  · exact .inl ⟨by simp, by simp, fun xf wq hk hbl hd K hK => by
      have d1 : xf 1 = .pointer (some ⟨w.heap.size, 0, none⟩) := hd ⟨1, .data⟩ (by simp) rfl
      have y : Blk wq w.heap.size 28 #[.bool b, .slice A n c, .slice D m e, .bool false] := hbl _ (List.Mem.head _) (by simp [Region.binds])
      obtain ⟨c0, c1, c2, c3⟩ := y.c4
      (try dsimp only); (try simp only [d1])
      go_simp
      have hz := hK.out (.agg #[.bool b, .slice A n c, .slice D m e]) _ rfl (brefl _)
      simp only [d1] at hz
      exact hz⟩
  · exact .inl ⟨by simp, by simp, fun xf wq hk hbl hd K hK => by
      (try dsimp only)
      go_simp
      exact hK.out (.pointer (some ⟨w.heap.size, 0, none⟩)) _ rfl (brefl _)⟩
  · exact .inl ⟨by simp, by simp, fun xf wq hk hbl hd K hK => by
      have d3 : xf 3 = .pointer (some ⟨w.heap.size, 0, none⟩) := hd ⟨3, .data⟩ (by simp) rfl
      have y : Blk wq w.heap.size 28 #[.bool b, .slice A n c, .slice D m e, .bool false] := hbl _ (List.Mem.head _) (by simp [Region.binds])
      obtain ⟨c0, c1, c2, c3⟩ := y.c4
      (try dsimp only); (try simp only [d3])
      go_simp
      have hz := hK.out (.agg #[.bool b, .slice A n c, .slice D m e]) _ rfl (brefl _)
      simp only [d3] at hz
      exact hz⟩
  · exact .inl ⟨by simp, by simp, fun xf wq hk hbl hd K hK => by
      have d2 : xf 2 = .agg #[.bool b, .slice A n c, .slice D m e] := hd ⟨2, .data⟩ (by simp) rfl
      have d4 : xf 4 = .agg #[.bool b, .slice A n c, .slice D m e] := hd ⟨4, .data⟩ (by simp) rfl
      (try dsimp only); (try simp only [d2, d4])
      go_simp
      go_at_call 24
      (with_reducible refine (f_mul _ b A n c D m e ((t).t) (k) ?_ b A n c D m e ((t).t) (k) ?_ ?_ ?_ ?_ ?_).mono ?_); (exact (h.keep hk).qz); (exact (h.keep hk).qz); (omega); (omega); (omega); (omega); rintro e wr ⟨b4, A4, n4, c4, A'4, n'4, c'4, rfl, h4, hbr⟩
      have hz := hK.out _ _ ⟨b4, A4, n4, c4, A'4, n'4, c'4, rfl, h4⟩ hbr
      simp only [d2, d4] at hz
      exact hz⟩
  · exact .inr (.inl ⟨⟨6, 8, 24, #[.bool false, .slice none 0 0, .slice none 0 0], CQ (((1 : Int) : Rat)) (1)⟩, by simp, rfl, by simp, by simp, by simp, fun _ _ => True.intro, fun xf wq K hK => by
      (try dsimp only)
      go_simp
      exact hK.out⟩)
  · exact .inr (.inl ⟨⟨7, 9, 24, #[.bool false, .slice none 0 0, .slice none 0 0], CQ (((t).t) * ((t).t)) ((k) + (k))⟩, by simp, rfl, by simp, by simp, by simp, fun _ _ => True.intro, fun xf wq K hK => by
      (try dsimp only)
      go_simp
      exact hK.out⟩)
  · exact .inr (.inr (.inl ⟨⟨6, 8, 24, #[.bool false, .slice none 0 0, .slice none 0 0], CQ (((1 : Int) : Rat)) (1)⟩, by simp, rfl, by simp, by simp, by simp, by simp, (show KT 24 = false by decide), fun _ _ => True.intro, ⟨⟨6, .data⟩, by simp, rfl, rfl⟩, fun xf wq g hx hblk hd => by
      obtain ⟨b3, A3, n3, c3, A'3, n'3, c'3, d0, h3⟩ : VQ (((1 : Int) : Rat)) (1) (xf 0) wq := hd ⟨0, .data⟩ (by simp) rfl
      dsimp only at hx hblk
      refine ⟨[.bool b3, .slice A3 n3 c3, .slice A'3 n'3 c'3], fun w' hk => ⟨b3, A3, n3, c3, A'3, n'3, c'3, rfl, h3.keep hk⟩, fun K hK => ?_⟩
      have hc0 : wq.cell? ⟨g, 0, none⟩ = some (.bool false) := hblk.cell 0
      have hc1 : wq.cell? ⟨g, 1, none⟩ = some (.slice none 0 0) := hblk.cell 1
      have hc2 : wq.cell? ⟨g, 2, none⟩ = some (.slice none 0 0) := hblk.cell 2
      have hf0 : wq.frozen? ⟨g, 0, none⟩ = false := hblk.frozen 0
      have hf1 : wq.frozen? ⟨g, 1, none⟩ = false := hblk.frozen 1
      have hf2 : wq.frozen? ⟨g, 2, none⟩ = false := hblk.frozen 2
      (try dsimp only)
      simp only [hx, d0]
      go_simp
      have hz := hK.out undef
      simp only [hx, d0] at hz
      exact hz⟩))
  · exact .inr (.inr (.inl ⟨⟨7, 9, 24, #[.bool false, .slice none 0 0, .slice none 0 0], CQ (((t).t) * ((t).t)) ((k) + (k))⟩, by simp, rfl, by simp, by simp, by simp, by simp, (show KT 24 = false by decide), fun _ _ => True.intro, ⟨⟨7, .data⟩, by simp, rfl, rfl⟩, fun xf wq g hx hblk hd => by
      obtain ⟨b4, A4, n4, c4, A'4, n'4, c'4, d5, h4⟩ : VQ (((t).t) * ((t).t)) ((k) + (k)) (xf 5) wq := hd ⟨5, .data⟩ (by simp) rfl
      dsimp only at hx hblk
      refine ⟨[.bool b4, .slice A4 n4 c4, .slice A'4 n'4 c'4], fun w' hk => ⟨b4, A4, n4, c4, A'4, n'4, c'4, rfl, h4.keep hk⟩, fun K hK => ?_⟩
      have hc0 : wq.cell? ⟨g, 0, none⟩ = some (.bool false) := hblk.cell 0
      have hc1 : wq.cell? ⟨g, 1, none⟩ = some (.slice none 0 0) := hblk.cell 1
      have hc2 : wq.cell? ⟨g, 2, none⟩ = some (.slice none 0 0) := hblk.cell 2
      have hf0 : wq.frozen? ⟨g, 0, none⟩ = false := hblk.frozen 0
      have hf1 : wq.frozen? ⟨g, 1, none⟩ = false := hblk.frozen 1
      have hf2 : wq.frozen? ⟨g, 2, none⟩ = false := hblk.frozen 2
      (try dsimp only)
      simp only [hx, d5]
      go_simp
      have hz := hK.out undef
      simp only [hx, d5] at hz
      exact hz⟩))
  clear cx1a lx1a
  intro y2 w2 kq2 hbl2 lw2 how hrr hfl hds
  replace h := h.keep kq2
  obtain ⟨_, z2_0, ez, _⟩ := how _ (List.Mem.head _)
  obtain rfl := ez (by simp)
  dsimp only at z2_0
  obtain ⟨_, z2_1, ez, _⟩ := how _ (List.Mem.tail _ (List.Mem.head _))
  obtain rfl := ez (by simp)
  dsimp only at z2_1
  obtain ⟨_, z2_2, ez, _⟩ := how _ (List.Mem.tail _ (List.Mem.tail _ (List.Mem.head _)))
  obtain rfl := ez (by simp)
  dsimp only at z2_2
  obtain ⟨g4_2, _, eg4_2, Gg4_2, xg4_2, ⟨b3, A3, n3, c3, A'3, n'3, c'3, rfl, h3⟩⟩ := hfl _ (List.Mem.head _)
  dsimp only at eg4_2 Gg4_2 xg4_2
  obtain ⟨g5_2, _, eg5_2, Gg5_2, xg5_2, ⟨b4, A4, n4, c4, A'4, n'4, c'4, rfl, h4⟩⟩ := hfl _ (List.Mem.tail _ (List.Mem.head _))
  dsimp only at eg5_2 Gg5_2 xg5_2
  have lgg4_2 : g4_2 < w2.heap.size := xg4_2.lt
  have lgg5_2 : g5_2 < w2.heap.size := xg5_2.lt
  have ngg4_2g5_2 : g4_2 ≠ g5_2 := fun e => hds _ (List.Mem.head _) _ (List.Mem.tail _ (List.Mem.head _)) (by simp) (by dsimp only; rw [eg4_2, eg5_2, e])
  (try dsimp only)
  simp only [eg4_2, eg5_2]
  clear hrr hfl how hds eg4_2 eg5_2
  clear x1a x1b x1c
  have bw2 := bw1.trans hbl2
  clear bw1
  have cxg4_2_0 : w2.cell? ⟨g4_2, 0, none⟩ = some (.bool b3) := xg4_2.cell 0
  have cxg4_2_1 : w2.cell? ⟨g4_2, 1, none⟩ = some (.slice A3 n3 c3) := xg4_2.cell 1
  have cxg4_2_2 : w2.cell? ⟨g4_2, 2, none⟩ = some (.slice A'3 n'3 c'3) := xg4_2.cell 2
  obtain ⟨lxg4_2_0, lxg4_2_1, lxg4_2_2, lxg4_2_3⟩ := lts0 xg4_2.lt
  have cxg5_2_0 : w2.cell? ⟨g5_2, 0, none⟩ = some (.bool b4) := xg5_2.cell 0
  have cxg5_2_1 : w2.cell? ⟨g5_2, 1, none⟩ = some (.slice A4 n4 c4) := xg5_2.cell 1
  have cxg5_2_2 : w2.cell? ⟨g5_2, 2, none⟩ = some (.slice A'4 n'4 c'4) := xg5_2.cell 2
  obtain ⟨lxg5_2_0, lxg5_2_1, lxg5_2_2, lxg5_2_3⟩ := lts0 xg5_2.lt
  go_wp2_with fail
  (with_reducible refine (f_add _ b3 A3 n3 c3 A'3 n'3 c'3 (((1 : Int) : Rat)) (1) ?_ b4 A4 n4 c4 A'4 n'4 c'4 (((t).t) * ((t).t)) ((k) + (k)) ?_ ?_ ?_ ?_ ?_).mono ?_); (exact h3.qz); (exact h4.qz); (omega); (omega); (omega); (omega); rintro e w6 ⟨b6, A6, n6, c6, A'6, n'6, c'6, rfl, h6, q6⟩
  clear cxg4_2_0 cxg4_2_1 cxg4_2_2 lxg4_2_0 lxg4_2_1 lxg4_2_2 lxg4_2_3 cxg5_2_0 cxg5_2_1 cxg5_2_2 lxg5_2_0 lxg5_2_1 lxg5_2_2 lxg5_2_3
  replace h := h.belw q6
  replace h3 := h3.belw q6
  replace h4 := h4.belw q6
  replace z2_0 := z2_0.b q6
  replace z2_1 := z2_1.b q6
  replace z2_2 := z2_2.b q6
  replace xg4_2 := xg4_2.b q6
  replace xg5_2 := xg5_2.b q6
  have bw6 := bw2.trans (q6.mono bw2.size)
  have lw6 := q6.size
  clear q6 bw2
  go_wp2_with fail
  have p7 := ((Kp.refl w6).alloc (.cells #[.bool b6, .slice A6 n6 c6, .slice A'6 n'6 c'6] 24))
  have bw7 := (bw6.alloc (by first | omega | (simp <;> omega)) (.cells #[.bool b6, .slice A6 n6 c6, .slice A'6 n'6 c'6] 24))
  have x7a : Blk (w6.alloc (.cells #[.bool b6, .slice A6 n6 c6, .slice A'6 n'6 c'6] 24)) w6.heap.size 24 #[.bool b6, .slice A6 n6 c6, .slice A'6 n'6 c'6] := (blkAt _ _ _ (by simp))
  replace z2_0 : Blk (w6.alloc (.cells #[.bool b6, .slice A6 n6 c6, .slice A'6 n'6 c'6] 24)) w.heap.size 28 #[.bool b, .slice A n c, .slice D m e, .bool false] := (z2_0.alloc (.cells #[.bool b6, .slice A6 n6 c6, .slice A'6 n'6 c'6] 24))
  replace z2_1 : Blk (w6.alloc (.cells #[.bool b6, .slice A6 n6 c6, .slice A'6 n'6 c'6] 24)) (w.heap.size + 1) 24 #[.bool false, .slice none 0 0, .slice none 0 0] := (z2_1.alloc (.cells #[.bool b6, .slice A6 n6 c6, .slice A'6 n'6 c'6] 24))
  replace z2_2 : Blk (w6.alloc (.cells #[.bool b6, .slice A6 n6 c6, .slice A'6 n'6 c'6] 24)) (w.heap.size + 1 + 1) 24 #[.bool false, .slice none 0 0, .slice none 0 0] := (z2_2.alloc (.cells #[.bool b6, .slice A6 n6 c6, .slice A'6 n'6 c'6] 24))
  replace xg4_2 : Blk (w6.alloc (.cells #[.bool b6, .slice A6 n6 c6, .slice A'6 n'6 c'6] 24)) (g4_2) 24 #[.bool b3, .slice A3 n3 c3, .slice A'3 n'3 c'3] := (xg4_2.alloc (.cells #[.bool b6, .slice A6 n6 c6, .slice A'6 n'6 c'6] 24))
  replace xg5_2 : Blk (w6.alloc (.cells #[.bool b6, .slice A6 n6 c6, .slice A'6 n'6 c'6] 24)) (g5_2) 24 #[.bool b4, .slice A4 n4 c4, .slice A'4 n'4 c'4] := (xg5_2.alloc (.cells #[.bool b6, .slice A6 n6 c6, .slice A'6 n'6 c'6] 24))
  have lw7 : w6.heap.size + 1 ≤ (w6.alloc (.cells #[.bool b6, .slice A6 n6 c6, .slice A'6 n'6 c'6] 24)).heap.size := by simp
  generalize hE7 : (w6.alloc (.cells #[.bool b6, .slice A6 n6 c6, .slice A'6 n'6 c'6] 24)) = w7 at p7 bw7 lw7 x7a z2_0 z2_1 z2_2 xg4_2 xg5_2 ⊢
  clear hE7
  replace h := h.keep p7
  replace h3 := h3.keep p7
  replace h4 := h4.keep p7
  replace h6 := h6.keep p7
  clear bw6
  have cz2_0_0 : w7.cell? ⟨w.heap.size, 0, none⟩ = some (.bool b) := z2_0.cell 0
  have cz2_0_1 : w7.cell? ⟨w.heap.size, 1, none⟩ = some (.slice A n c) := z2_0.cell 1
  have cz2_0_2 : w7.cell? ⟨w.heap.size, 2, none⟩ = some (.slice D m e) := z2_0.cell 2
  have cz2_0_3 : w7.cell? ⟨w.heap.size, 3, none⟩ = some (.bool false) := z2_0.cell 3
  have lz2_0 := lts0 z2_0.lt
  obtain ⟨cxg4_2_0, cxg4_2_1, cxg4_2_2⟩ := xg4_2.c3
  obtain ⟨lxg4_2_0, lxg4_2_1, lxg4_2_2, lxg4_2_3⟩ := lts0 xg4_2.lt
  obtain ⟨cxg5_2_0, cxg5_2_1, cxg5_2_2⟩ := xg5_2.c3
  obtain ⟨lxg5_2_0, lxg5_2_1, lxg5_2_2, lxg5_2_3⟩ := lts0 xg5_2.lt
  have cx7a := x7a.c3
  have lx7a := lts0 x7a.lt
  refine wp_region_lin (B := w.heap.size) (fr := fun xf => ⟨#[.agg #[.bool b, .slice A n c, .slice D m e, .bool false], .pointer (some ⟨w.heap.size, 0, none⟩), .pointer (some ⟨w.heap.size + 1, 0, none⟩), .pointer (some ⟨w.heap.size + 1 + 1, 0, none⟩), .pointer (some ⟨g4_2, 0, none⟩), .pointer (some ⟨g5_2, 0, none⟩), .pointer (some ⟨w6.heap.size, 0, none⟩), .pointer (some ⟨w.heap.size, 3, none⟩), .bool false, undef, undef, y2 0, y2 1, y2 2, y2 3, y2 4, y2 5, .agg #[.bool b3, .slice A3 n3 c3, .slice A'3 n'3 c'3], .agg #[.bool b4, .slice A4 n4 c4, .slice A'4 n'4 c'4], .agg #[.bool b6, .slice A6 n6 c6, .slice A'6 n'6 c'6], xf 0, xf 1, xf 2, xf 3, xf 4, xf 5, xf 6, xf 7, xf 8, xf 9, xf 10, xf 11], []⟩) (R := fun i => List.getD [PEq (.agg #[.bool b3, .slice A3 n3 c3, .slice A'3 n'3 c'3]), PEq (.agg #[.bool b4, .slice A4 n4 c4, .slice A'4 n'4 c'4]), VQ ((((1 : Int) : Rat)) - (((t).t) * ((t).t))) ((1) + ((k) + (k)) + 1), PEq (.agg #[.bool b6, .slice A6 n6 c6, .slice A'6 n'6 c'6]), VQ (((((1 : Int) : Rat)) - (((t).t) * ((t).t))) / ((((1 : Int) : Rat)) + (((t).t) * ((t).t)))) (((1) + ((k) + (k)) + 1) + ((1) + ((k) + (k)) + 1)), PEq (.pointer (some ⟨w.heap.size, 0, none⟩)), PEq (.agg #[.bool b, .slice A n c, .slice D m e]), PEq (.pointer (some ⟨w.heap.size, 0, none⟩)), PEq (.agg #[.bool b, .slice A n c, .slice D m e]), VQ (((t).t) + ((t).t)) ((k) + (k) + 1), PEq (.agg #[.bool b6, .slice A6 n6 c6, .slice A'6 n'6 c'6]), VQ ((((t).t) + ((t).t)) / ((((1 : Int) : Rat)) + (((t).t) * ((t).t)))) (((k) + (k) + 1) + ((1) + ((k) + (k)) + 1)), PAny, PAny] i (fun _ _ => True)) (es := []) (ow := [⟨w.heap.size, 14, 0, 28, #[.bool b, .slice A n c, .slice D m e, .bool false], CAny⟩, ⟨w.heap.size + 1, 12, 0, 24, #[.bool false, .slice none 0 0, .slice none 0 0], CQ (((((1 : Int) : Rat)) - (((t).t) * ((t).t))) / ((((1 : Int) : Rat)) + (((t).t) * ((t).t)))) (((1) + ((k) + (k)) + 1) + ((1) + ((k) + (k)) + 1))⟩, ⟨w.heap.size + 1 + 1, 13, 0, 24, #[.bool false, .slice none 0 0, .slice none 0 0], CQ ((((t).t) + ((t).t)) / ((((1 : Int) : Rat)) + (((t).t) * ((t).t)))) (((k) + (k) + 1) + ((1) + ((k) + (k)) + 1))⟩, ⟨g4_2, 14, 0, 24, #[.bool b3, .slice A3 n3 c3, .slice A'3 n'3 c'3], CAny⟩, ⟨g5_2, 14, 0, 24, #[.bool b4, .slice A4 n4 c4, .slice A'4 n'4 c'4], CAny⟩, ⟨w6.heap.size, 14, 0, 24, #[.bool b6, .slice A6 n6 c6, .slice A'6 n'6 c'6], CAny⟩]) (x0 := fun _ => undef) (by kernel_rfl)
    (each_of ⟨fun _ _ => rfl, fun _ _ => rfl, fun _ _ => rfl, fun _ _ => rfl, fun _ _ => rfl, fun _ _ => rfl, fun _ _ => rfl, fun _ _ => rfl, fun _ _ => rfl, fun _ _ => rfl, fun _ _ => rfl, fun _ _ => rfl, fun _ _ => rfl, fun _ _ => rfl, trivial⟩) (each_of (acyc_from _ 0 (by kernel_rfl))) (AllStab.get _ ⟨stEq _, stEq _, stQ _ _, stEq _, stQ _ _, stEq _, stEq _, stEq _, stEq _, stQ _ _, stEq _, stQ _ _, stAny, stAny, trivial⟩)
    (fun _ h => nomatch h) (fmc ⟨scAny, fmc ⟨scQ _ _, fmc ⟨scQ _ _, fmc ⟨scAny, fmc ⟨scAny, fmc ⟨scAny, fun _ h => nomatch h⟩⟩⟩⟩⟩⟩) (fun _ h => nomatch h) bw7.size
    (fmc ⟨⟨z2_0, by show w.heap.size ≤ w.heap.size; omega⟩, fmc ⟨⟨z2_1, by show w.heap.size ≤ w.heap.size + 1; omega⟩, fmc ⟨⟨z2_2, by show w.heap.size ≤ w.heap.size + 1 + 1; omega⟩, fmc ⟨⟨xg4_2, by show w.heap.size ≤ g4_2; omega⟩, fmc ⟨⟨xg5_2, by show w.heap.size ≤ g5_2; omega⟩, fmc ⟨⟨x7a, by show w.heap.size ≤ w6.heap.size; omega⟩, fun _ h => nomatch h⟩⟩⟩⟩⟩⟩) (ownDist (by simp <;> omega))
    (each_of ⟨?_, ?_, ?_, ?_, ?_, ?_, ?_, ?_, ?_, ?_, ?_, ?_, ?_, ?_, trivial⟩) ?_
  · exact .inl ⟨by simp, by simp, fun xf wq hk hbl hd K hK => by
      have y : Blk wq (g4_2) 24 #[.bool b3, .slice A3 n3 c3, .slice A'3 n'3 c'3] := hbl _ (List.Mem.tail _ (List.Mem.tail _ (List.Mem.tail _ (List.Mem.head _)))) (by simp [Region.binds])
      obtain ⟨c0, c1, c2⟩ := y.c3
      (try dsimp only)
      go_simp
      exact hK.out (.agg #[.bool b3, .slice A3 n3 c3, .slice A'3 n'3 c'3]) _ rfl (brefl _)⟩
  · exact .inl ⟨by simp, by simp, fun xf wq hk hbl hd K hK => by
      have y : Blk wq (g5_2) 24 #[.bool b4, .slice A4 n4 c4, .slice A'4 n'4 c'4] := hbl _ (List.Mem.tail _ (List.Mem.tail _ (List.Mem.tail _ (List.Mem.tail _ (List.Mem.head _))))) (by simp [Region.binds])
      obtain ⟨c0, c1, c2⟩ := y.c3
      (try dsimp only)
      go_simp
      exact hK.out (.agg #[.bool b4, .slice A4 n4 c4, .slice A'4 n'4 c'4]) _ rfl (brefl _)⟩
  · exact .inl ⟨by simp, by simp, fun xf wq hk hbl hd K hK => by
      have d0 : xf 0 = .agg #[.bool b3, .slice A3 n3 c3, .slice A'3 n'3 c'3] := hd ⟨0, .data⟩ (by simp) rfl
      have d1 : xf 1 = .agg #[.bool b4, .slice A4 n4 c4, .slice A'4 n'4 c'4] := hd ⟨1, .data⟩ (by simp) rfl
      (try dsimp only); (try simp only [d0, d1])
      go_simp
      go_at_call 29
      (with_reducible refine (f_sub _ b3 A3 n3 c3 A'3 n'3 c'3 (((1 : Int) : Rat)) (1) ?_ b4 A4 n4 c4 A'4 n'4 c'4 (((t).t) * ((t).t)) ((k) + (k)) ?_ ?_ ?_ ?_ ?_).mono ?_); (exact (h3.keep hk).qz); (exact (h4.keep hk).qz); (omega); (omega); (omega); (omega); rintro e wr ⟨b9, A9, n9, c9, A'9, n'9, c'9, rfl, h9, hbr⟩
      have hz := hK.out _ _ ⟨b9, A9, n9, c9, A'9, n'9, c'9, rfl, h9⟩ hbr
      simp only [d0, d1] at hz
      exact hz⟩
  · exact .inl ⟨by simp, by simp, fun xf wq hk hbl hd K hK => by
      have y : Blk wq w6.heap.size 24 #[.bool b6, .slice A6 n6 c6, .slice A'6 n'6 c'6] := hbl _ (List.Mem.tail _ (List.Mem.tail _ (List.Mem.tail _ (List.Mem.tail _ (List.Mem.tail _ (List.Mem.head _)))))) (by simp [Region.binds])
      obtain ⟨c0, c1, c2⟩ := y.c3
      (try dsimp only)
      go_simp
      exact hK.out (.agg #[.bool b6, .slice A6 n6 c6, .slice A'6 n'6 c'6]) _ rfl (brefl _)⟩
  · exact .inl ⟨by simp, by simp, fun xf wq hk hbl hd K hK => by
      obtain ⟨b9, A9, n9, c9, A'9, n'9, c'9, d2, h9⟩ : VQ ((((1 : Int) : Rat)) - (((t).t) * ((t).t))) ((1) + ((k) + (k)) + 1) (xf 2) wq := hd ⟨2, .data⟩ (by simp) rfl
      have d3 : xf 3 = .agg #[.bool b6, .slice A6 n6 c6, .slice A'6 n'6 c'6] := hd ⟨3, .data⟩ (by simp) rfl
      (try dsimp only); (try simp only [d2, d3])
      go_simp
      go_at_call 28
      (with_reducible refine (t_over _ b9 A9 n9 c9 A'9 n'9 c'9 ((((1 : Int) : Rat)) - (((t).t) * ((t).t))) ((1) + ((k) + (k)) + 1) ?_ b6 A6 n6 c6 A'6 n'6 c'6 ((((1 : Int) : Rat)) + (((t).t) * ((t).t))) ((1) + ((k) + (k)) + 1) ?_ ?_ ?_ ?_ ?_ ?_).mono ?_); (exact h9.qz); (exact (h6.keep hk).qz); (omega); (omega); (omega); (omega); (exact HNE.out); rintro e wr ⟨b10, A10, n10, c10, A'10, n'10, c'10, rfl, h10, hbr⟩
      have hz := hK.out _ _ ⟨b10, A10, n10, c10, A'10, n'10, c'10, rfl, h10⟩ hbr
      simp only [d2, d3] at hz
      exact hz⟩
  · exact .inl ⟨by simp, by simp, fun xf wq hk hbl hd K hK => by
      (try dsimp only)
      go_simp
      exact hK.out (.pointer (some ⟨w.heap.size, 0, none⟩)) _ rfl (brefl _)⟩
  · exact .inl ⟨by simp, by simp, fun xf wq hk hbl hd K hK => by
      have d5 : xf 5 = .pointer (some ⟨w.heap.size, 0, none⟩) := hd ⟨5, .data⟩ (by simp) rfl
      have y : Blk wq w.heap.size 28 #[.bool b, .slice A n c, .slice D m e, .bool false] := hbl _ (List.Mem.head _) (by simp [Region.binds])
      obtain ⟨c0, c1, c2, c3⟩ := y.c4
      (try dsimp only); (try simp only [d5])
      go_simp
      have hz := hK.out (.agg #[.bool b, .slice A n c, .slice D m e]) _ rfl (brefl _)
      simp only [d5] at hz
      exact hz⟩
  · exact .inl ⟨by simp, by simp, fun xf wq hk hbl hd K hK => by
      (try dsimp only)
      go_simp
      exact hK.out (.pointer (some ⟨w.heap.size, 0, none⟩)) _ rfl (brefl _)⟩
  · exact .inl ⟨by simp, by simp, fun xf wq hk hbl hd K hK => by
      have d7 : xf 7 = .pointer (some ⟨w.heap.size, 0, none⟩) := hd ⟨7, .data⟩ (by simp) rfl
      have y : Blk wq w.heap.size 28 #[.bool b, .slice A n c, .slice D m e, .bool false] := hbl _ (List.Mem.head _) (by simp [Region.binds])
      obtain ⟨c0, c1, c2, c3⟩ := y.c4
      (try dsimp only); (try simp only [d7])
      go_simp
      have hz := hK.out (.agg #[.bool b, .slice A n c, .slice D m e]) _ rfl (brefl _)
      simp only [d7] at hz
      exact hz⟩
  · exact .inl ⟨by simp, by simp, fun xf wq hk hbl hd K hK => by
      have d6 : xf 6 = .agg #[.bool b, .slice A n c, .slice D m e] := hd ⟨6, .data⟩ (by simp) rfl
      have d8 : xf 8 = .agg #[.bool b, .slice A n c, .slice D m e] := hd ⟨8, .data⟩ (by simp) rfl
      (try dsimp only); (try simp only [d6, d8])
      go_simp
      go_at_call 23
      (with_reducible refine (f_add _ b A n c D m e ((t).t) (k) ?_ b A n c D m e ((t).t) (k) ?_ ?_ ?_ ?_ ?_).mono ?_); (exact (h.keep hk).qz); (exact (h.keep hk).qz); (omega); (omega); (omega); (omega); rintro e wr ⟨b11, A11, n11, c11, A'11, n'11, c'11, rfl, h11, hbr⟩
      have hz := hK.out _ _ ⟨b11, A11, n11, c11, A'11, n'11, c'11, rfl, h11⟩ hbr
      simp only [d6, d8] at hz
      exact hz⟩
  · exact .inl ⟨by simp, by simp, fun xf wq hk hbl hd K hK => by
      have y : Blk wq w6.heap.size 24 #[.bool b6, .slice A6 n6 c6, .slice A'6 n'6 c'6] := hbl _ (List.Mem.tail _ (List.Mem.tail _ (List.Mem.tail _ (List.Mem.tail _ (List.Mem.tail _ (List.Mem.head _)))))) (by simp [Region.binds])
      obtain ⟨c0, c1, c2⟩ := y.c3
      (try dsimp only)
      go_simp
      exact hK.out (.agg #[.bool b6, .slice A6 n6 c6, .slice A'6 n'6 c'6]) _ rfl (brefl _)⟩
  · exact .inl ⟨by simp, by simp, fun xf wq hk hbl hd K hK => by
      obtain ⟨b11, A11, n11, c11, A'11, n'11, c'11, d9, h11⟩ : VQ (((t).t) + ((t).t)) ((k) + (k) + 1) (xf 9) wq := hd ⟨9, .data⟩ (by simp) rfl
      have d10 : xf 10 = .agg #[.bool b6, .slice A6 n6 c6, .slice A'6 n'6 c'6] := hd ⟨10, .data⟩ (by simp) rfl
      (try dsimp only); (try simp only [d9, d10])
      go_simp
      go_at_call 28
      (with_reducible refine (t_over _ b11 A11 n11 c11 A'11 n'11 c'11 (((t).t) + ((t).t)) ((k) + (k) + 1) ?_ b6 A6 n6 c6 A'6 n'6 c'6 ((((1 : Int) : Rat)) + (((t).t) * ((t).t))) ((1) + ((k) + (k)) + 1) ?_ ?_ ?_ ?_ ?_ ?_).mono ?_); (exact h11.qz); (exact (h6.keep hk).qz); (omega); (omega); (omega); (omega); (exact HNE.out); rintro e wr ⟨b12, A12, n12, c12, A'12, n'12, c'12, rfl, h12, hbr⟩
      have hz := hK.out _ _ ⟨b12, A12, n12, c12, A'12, n'12, c'12, rfl, h12⟩ hbr
      simp only [d9, d10] at hz
      exact hz⟩
  · exact .inr (.inr (.inr ⟨⟨w.heap.size + 1, 12, 0, 24, #[.bool false, .slice none 0 0, .slice none 0 0], CQ (((((1 : Int) : Rat)) - (((t).t) * ((t).t))) / ((((1 : Int) : Rat)) + (((t).t) * ((t).t)))) (((1) + ((k) + (k)) + 1) + ((1) + ((k) + (k)) + 1))⟩, by simp, rfl, by simp, by simp, (show KT 24 = false by decide), fun _ _ => True.intro, fun xf wq hblk hd => by
      obtain ⟨b10, A10, n10, c10, A'10, n'10, c'10, d4, h10⟩ : VQ (((((1 : Int) : Rat)) - (((t).t) * ((t).t))) / ((((1 : Int) : Rat)) + (((t).t) * ((t).t)))) (((1) + ((k) + (k)) + 1) + ((1) + ((k) + (k)) + 1)) (xf 4) wq := hd ⟨4, .data⟩ (by simp) rfl
      dsimp only at hblk
      refine ⟨[.bool b10, .slice A10 n10 c10, .slice A'10 n'10 c'10], fun w' hk => ⟨b10, A10, n10, c10, A'10, n'10, c'10, rfl, h10.keep hk⟩, fun K hK => ?_⟩
      have hc0 : wq.cell? ⟨w.heap.size + 1, 0, none⟩ = some (.bool false) := hblk.cell 0
      have hc1 : wq.cell? ⟨w.heap.size + 1, 1, none⟩ = some (.slice none 0 0) := hblk.cell 1
      have hc2 : wq.cell? ⟨w.heap.size + 1, 2, none⟩ = some (.slice none 0 0) := hblk.cell 2
      have hf0 : wq.frozen? ⟨w.heap.size + 1, 0, none⟩ = false := hblk.frozen 0
      have hf1 : wq.frozen? ⟨w.heap.size + 1, 1, none⟩ = false := hblk.frozen 1
      have hf2 : wq.frozen? ⟨w.heap.size + 1, 2, none⟩ = false := hblk.frozen 2
      (try dsimp only)
      simp only [d4]
      go_simp
      have hz := hK.out undef
      simp only [d4] at hz
      exact hz⟩))
  · exact .inr (.inr (.inr ⟨⟨w.heap.size + 1 + 1, 13, 0, 24, #[.bool false, .slice none 0 0, .slice none 0 0], CQ ((((t).t) + ((t).t)) / ((((1 : Int) : Rat)) + (((t).t) * ((t).t)))) (((k) + (k) + 1) + ((1) + ((k) + (k)) + 1))⟩, by simp, rfl, by simp, by simp, (show KT 24 = false by decide), fun _ _ => True.intro, fun xf wq hblk hd => by
      obtain ⟨b12, A12, n12, c12, A'12, n'12, c'12, d11, h12⟩ : VQ ((((t).t) + ((t).t)) / ((((1 : Int) : Rat)) + (((t).t) * ((t).t)))) (((k) + (k) + 1) + ((1) + ((k) + (k)) + 1)) (xf 11) wq := hd ⟨11, .data⟩ (by simp) rfl
      dsimp only at hblk
      refine ⟨[.bool b12, .slice A12 n12 c12, .slice A'12 n'12 c'12], fun w' hk => ⟨b12, A12, n12, c12, A'12, n'12, c'12, rfl, h12.keep hk⟩, fun K hK => ?_⟩
      have hc0 : wq.cell? ⟨w.heap.size + 1 + 1, 0, none⟩ = some (.bool false) := hblk.cell 0
      have hc1 : wq.cell? ⟨w.heap.size + 1 + 1, 1, none⟩ = some (.slice none 0 0) := hblk.cell 1
      have hc2 : wq.cell? ⟨w.heap.size + 1 + 1, 2, none⟩ = some (.slice none 0 0) := hblk.cell 2
      have hf0 : wq.frozen? ⟨w.heap.size + 1 + 1, 0, none⟩ = false := hblk.frozen 0
      have hf1 : wq.frozen? ⟨w.heap.size + 1 + 1, 1, none⟩ = false := hblk.frozen 1
      have hf2 : wq.frozen? ⟨w.heap.size + 1 + 1, 2, none⟩ = false := hblk.frozen 2
      (try dsimp only)
      simp only [d11]
      go_simp
      have hz := hK.out undef
      simp only [d11] at hz
      exact hz⟩))
  clear cz2_0_0 cz2_0_1 cz2_0_2 cz2_0_3 lz2_0 cxg4_2_0 cxg4_2_1 cxg4_2_2 lxg4_2_0 lxg4_2_1 lxg4_2_2 lxg4_2_3 cxg5_2_0 cxg5_2_1 cxg5_2_2 lxg5_2_0 lxg5_2_1 lxg5_2_2 lxg5_2_3 cx7a lx7a
  intro y8 w8 kq8 hbl8 lw8 how hrr hfl hds
  replace h := h.keep kq8
  replace h3 := h3.keep kq8
  replace h4 := h4.keep kq8
  replace h6 := h6.keep kq8
  obtain ⟨_, z8_0, ez, _⟩ := how _ (List.Mem.head _)
  obtain rfl := ez (by simp)
  dsimp only at z8_0
  obtain ⟨_, z8_1, _, ez⟩ := how _ (List.Mem.tail _ (List.Mem.head _))
  obtain ⟨b10, A10, n10, c10, A'10, n'10, c'10, rfl, h10⟩ := ez (by simp)
  dsimp only at z8_1
  obtain ⟨_, z8_2, _, ez⟩ := how _ (List.Mem.tail _ (List.Mem.tail _ (List.Mem.head _)))
  obtain ⟨b12, A12, n12, c12, A'12, n'12, c'12, rfl, h12⟩ := ez (by simp)
  dsimp only at z8_2
  obtain ⟨_, z8_3, ez, _⟩ := how _ (List.Mem.tail _ (List.Mem.tail _ (List.Mem.tail _ (List.Mem.head _))))
  obtain rfl := ez (by simp)
  dsimp only at z8_3
  obtain ⟨_, z8_4, ez, _⟩ := how _ (List.Mem.tail _ (List.Mem.tail _ (List.Mem.tail _ (List.Mem.tail _ (List.Mem.head _)))))
  obtain rfl := ez (by simp)
  dsimp only at z8_4
  obtain ⟨_, z8_5, ez, _⟩ := how _ (List.Mem.tail _ (List.Mem.tail _ (List.Mem.tail _ (List.Mem.tail _ (List.Mem.tail _ (List.Mem.head _))))))
  obtain rfl := ez (by simp)
  dsimp only at z8_5
  (try dsimp only)
  clear hrr hfl how hds 
  clear z2_0 z2_1 z2_2 xg4_2 xg5_2 x7a
  have bw8 := bw7.trans hbl8
  clear bw7
  have cz8_1_0 : w8.cell? ⟨w.heap.size + 1, 0, none⟩ = some (.bool b10) := z8_1.cell 0
  have cz8_1_1 : w8.cell? ⟨w.heap.size + 1, 1, none⟩ = some (.slice A10 n10 c10) := z8_1.cell 1
  have cz8_1_2 : w8.cell? ⟨w.heap.size + 1, 2, none⟩ = some (.slice A'10 n'10 c'10) := z8_1.cell 2
  have lz8_1 := lts1 z8_1.lt
  have cz8_2_0 : w8.cell? ⟨w.heap.size + 1 + 1, 0, none⟩ = some (.bool b12) := z8_2.cell 0
  have cz8_2_1 : w8.cell? ⟨w.heap.size + 1 + 1, 1, none⟩ = some (.slice A12 n12 c12) := z8_2.cell 1
  have cz8_2_2 : w8.cell? ⟨w.heap.size + 1 + 1, 2, none⟩ = some (.slice A'12 n'12 c'12) := z8_2.cell 2
  have lz8_2 := lts2 z8_2.lt
  go_wp2_with fail
  rw [HC.out] at h10
  rw [HS.out] at h12
  refine bodyPost_ret (v := .tuple #[.agg #[.bool b10, .slice A10 n10 c10, .slice A'10 n'10 c'10], .agg #[.bool b12, .slice A12 n12 c12, .slice A'12 n'12 c'12]]) (by simp [results, Tryz.results43, go_sem, *] <;> trivial) rfl ?_
  have kp := (Kp.refl w8)
  exact ⟨b10, A10, n10, c10, A'10, n'10, c'10, b12, A12, n12, c12, A'12, n'12, c'12, rfl, (h10.keep kp).mono (by omega), (h12.keep kp).mono (by omega), bw8⟩
theorem t_direction_true (w : World) (b : Bool) (A : Option Addr) (n c : Nat) (D : Option Addr) (m e : Nat) (t : TN) (k : Nat) (h : TK w b A n c D m e true t k) (h0 : 0 < k) (hk : k ≤ 1000000) :
  Calls Tryz.prog 43 #[.agg #[.bool b, .slice A n c, .slice D m e, .bool true]] w (RetQQ w (tcos t) (tsin t) (4 * k + 4)) := by
 have HC := Lib.hid (show ((-1 : Int) : Rat) = tcos t by unfold tcos; rw [if_pos h.2.1.symm]; rfl)
 have HS := Lib.hid (show 0 = tsin t by unfold tsin; rw [if_pos h.2.1.symm])
 go_enter Tryz.func43, Tryz.ntmps43
 go_wp2_with fail
 (with_reducible refine (f_of _ ((-1)) ?_ ?_).mono ?_); (omega); (omega); rintro e w1 ⟨b1, A1, n1, c1, A'1, n'1, c'1, rfl, h1, hb1⟩
 have q1 := hb1.q3
 replace h := h.belw q1
 have x1a : Blk w1 w.heap.size 28 #[.bool b, .slice A n c, .slice D m e, .bool true] := (((blkAt _ _ _ (by simp)).alloc _).alloc _).below hb1 (by simp <;> omega)
 have x1b := ((blkAt _ _ _ (g := w.heap.size + 1) (by simp)).alloc _).below hb1 (by simp <;> omega)
 have x1c := (blkAt _ _ _ (g := w.heap.size + 1 + 1) (by simp)).below hb1 (by simp)
 have bw1 := (brefl w).trans (q1.mono (brefl w).size)
 have lw1 := hb1.l3
 clear q1
 have cx1b := x1b.c3
 have fx1b := x1b.f3
 have lx1b := lts1 x1b.lt
 have cx1c := x1c.c3
 have fx1c := x1c.f3
 have lx1c := lts2 x1c.lt
 go_wp2_with fail
 rw [HC.out] at h1
 rw [← HS.out]
 refine bodyPost_ret (v := .tuple #[.agg #[.bool b1, .slice A1 n1 c1, .slice A'1 n'1 c'1], .agg #[.bool false, .slice none 0 0, .slice none 0 0]]) (by simp [results, Tryz.results43, go_sem, *] <;> trivial) rfl ?_
 have kp := (((((((Kp.refl w1).sb (w.heap.size + 1) 0 x1b.box (by decide) (.bool b1)).sb (w.heap.size + 1) 1 (x1b.box.set ⟨w.heap.size + 1, 0, none⟩ (.bool b1)) (by decide) (.slice A1 n1 c1)).sb (w.heap.size + 1) 2 ((x1b.box.set ⟨w.heap.size + 1, 0, none⟩ (.bool b1)).set ⟨w.heap.size + 1, 1, none⟩ (.slice A1 n1 c1)) (by decide) (.slice A'1 n'1 c'1)).sb (w.heap.size + 1 + 1) 0 (((x1c.box.set ⟨w.heap.size + 1, 0, none⟩ (.bool b1)).set ⟨w.heap.size + 1, 1, none⟩ (.slice A1 n1 c1)).set ⟨w.heap.size + 1, 2, none⟩ (.slice A'1 n'1 c'1)) (by decide) (.bool false)).sb (w.heap.size + 1 + 1) 1 ((((x1c.box.set ⟨w.heap.size + 1, 0, none⟩ (.bool b1)).set ⟨w.heap.size + 1, 1, none⟩ (.slice A1 n1 c1)).set ⟨w.heap.size + 1, 2, none⟩ (.slice A'1 n'1 c'1)).set ⟨w.heap.size + 1 + 1, 0, none⟩ (.bool false)) (by decide) (.slice none 0 0)).sb (w.heap.size + 1 + 1) 2 (((((x1c.box.set ⟨w.heap.size + 1, 0, none⟩ (.bool b1)).set ⟨w.heap.size + 1, 1, none⟩ (.slice A1 n1 c1)).set ⟨w.heap.size + 1, 2, none⟩ (.slice A'1 n'1 c'1)).set ⟨w.heap.size + 1 + 1, 0, none⟩ (.bool false)).set ⟨w.heap.size + 1 + 1, 1, none⟩ (.slice none 0 0)) (by decide) (.slice none 0 0))
 exact ⟨b1, A1, n1, c1, A'1, n'1, c'1, false, none, 0, 0, none, 0, 0, rfl, (h1.keep kp).mono (by omega), QV.zero _ _, ((((((bw1.sc (w.heap.size + 1) 0 (by omega) (.bool b1)).sc (w.heap.size + 1) 1 (by omega) (.slice A1 n1 c1)).sc (w.heap.size + 1) 2 (by omega) (.slice A'1 n'1 c'1)).sc (w.heap.size + 1 + 1) 0 (by omega) (.bool false)).sc (w.heap.size + 1 + 1) 1 (by omega) (.slice none 0 0)).sc (w.heap.size + 1 + 1) 2 (by omega) (.slice none 0 0))⟩
theorem t_direction (w : World) (b : Bool) (A : Option Addr) (n c : Nat) (D : Option Addr) (m e : Nat) (x : Bool) (t : TN) (k : Nat) (h : TK w b A n c D m e x t k) (h0 : 0 < k) (hk : k ≤ 1000000) : Calls Tryz.prog 43 #[.agg #[.bool b, .slice A n c, .slice D m e, .bool x]] w (RetQQ w (tcos t) (tsin t) (4 * k + 4)) := by
  cases x
  · exact t_direction_false w b A n c D m e t k h h0 hk
  · exact t_direction_true w b A n c D m e t k h h0 hk
theorem t_cos (w : World) (b : Bool) (A : Option Addr) (n c : Nat) (D : Option Addr) (m e : Nat) (x : Bool) (t : TN) (k : Nat) (h : TK w b A n c D m e x t k) (h0 : 0 < k) (hk : k ≤ 1000000) :
  Calls Tryz.prog 17 #[.agg #[.bool b, .slice A n c, .slice D m e, .bool x]] w (RetFe w .nilIface (tcos t) (4 * k + 4)) := by
 go_enter Tryz.func17, Tryz.ntmps17
 go_wp2_with fail
 (with_reducible refine (t_check _ b A n c D m e x (t) (k) ?_ ?_ ?_).mono ?_); (exact (h.belw (((Below.refl _ _).alloc (Nat.le_refl _) _).alloc (by simp) _))); (omega); (omega); rintro e w1 ⟨rfl, hb1⟩
 have q1 := hb1.q2
 replace h := h.belw q1
 have x1a : Blk w1 w.heap.size 28 #[.bool b, .slice A n c, .slice D m e, .bool x] := ((blkAt _ _ _ (by simp)).alloc _).below hb1 (by simp <;> omega)
 have x1b := (blkAt _ _ _ (g := w.heap.size + 1) (by simp)).below hb1 (by simp)
 have bw1 := (brefl w).trans (q1.mono (brefl w).size)
 have lw1 := hb1.l2
 clear q1
 have cx1a := x1a.c4
 have lx1a := lts0 x1a.lt
 go_wp2_with fail
 (with_reducible refine (t_direction _ b A n c D m e x (t) (k) ?_ ?_ ?_).mono ?_); (exact h); (omega); (omega); rintro e w2 ⟨b2, A2, n2, c2, A'2, n'2, c'2, d2, D2, m2, e2, D'2, m'2, e'2, rfl, h2, h'2, q2⟩
 clear cx1a lx1a
 replace h := h.belw q2
 replace x1a := x1a.b q2
 replace x1b := x1b.b q2
 have bw2 := bw1.trans (q2.mono bw1.size)
 have lw2 := q2.size
 clear q2 bw1
 have cx1b := x1b.c3
 have fx1b := x1b.f3
 have lx1b := lts1 x1b.lt
 go_wp2_with fail
 refine bodyPost_ret (v := .tuple #[.agg #[.bool b2, .slice A2 n2 c2, .slice A'2 n'2 c'2], .nilIface]) (by simp [results, Tryz.results17, go_sem, *] <;> trivial) rfl ?_
 exact ⟨b2, A2, n2, c2, A'2, n'2, c'2, rfl, h2.keep ((((((Kp.refl w2).sb (w.heap.size + 1) 0 x1b.box (by decide) (.bool b2)).sb (w.heap.size + 1) 1 (x1b.box.set ⟨w.heap.size + 1, 0, none⟩ (.bool b2)) (by decide) (.slice A2 n2 c2)).sb (w.heap.size + 1) 2 ((x1b.box.set ⟨w.heap.size + 1, 0, none⟩ (.bool b2)).set ⟨w.heap.size + 1, 1, none⟩ (.slice A2 n2 c2)) (by decide) (.slice A'2 n'2 c'2)).alloc (.cells #[.bool b2, .slice A2 n2 c2, .slice A'2 n'2 c'2] 24)).alloc (.cells #[.bool d2, .slice D2 m2 e2, .slice D'2 m'2 e'2] 24)), (((((bw2.sc (w.heap.size + 1) 0 (by omega) (.bool b2)).sc (w.heap.size + 1) 1 (by omega) (.slice A2 n2 c2)).sc (w.heap.size + 1) 2 (by omega) (.slice A'2 n'2 c'2)).alloc (by first | omega | (simp <;> omega)) (.cells #[.bool b2, .slice A2 n2 c2, .slice A'2 n'2 c'2] 24)).alloc (by first | omega | (simp <;> omega)) (.cells #[.bool d2, .slice D2 m2 e2, .slice D'2 m'2 e'2] 24))⟩
theorem t_sin (w : World) (b : Bool) (A : Option Addr) (n c : Nat) (D : Option Addr) (m e : Nat) (x : Bool) (t : TN) (k : Nat) (h : TK w b A n c D m e x t k) (h0 : 0 < k) (hk : k ≤ 1000000) :
  Calls Tryz.prog 19 #[.agg #[.bool b, .slice A n c, .slice D m e, .bool x]] w (RetFe w .nilIface (tsin t) (4 * k + 4)) := by
 go_enter Tryz.func19, Tryz.ntmps19
 go_wp2_with fail
 (with_reducible refine (t_check _ b A n c D m e x (t) (k) ?_ ?_ ?_).mono ?_); (exact (h.belw (((Below.refl _ _).alloc (Nat.le_refl _) _).alloc (by simp) _))); (omega); (omega); rintro e w1 ⟨rfl, hb1⟩
 have q1 := hb1.q2
 replace h := h.belw q1
 have x1a : Blk w1 w.heap.size 28 #[.bool b, .slice A n c, .slice D m e, .bool x] := ((blkAt _ _ _ (by simp)).alloc _).below hb1 (by simp <;> omega)
 have x1b := (blkAt _ _ _ (g := w.heap.size + 1) (by simp)).below hb1 (by simp)
 have bw1 := (brefl w).trans (q1.mono (brefl w).size)
 have lw1 := hb1.l2
 clear q1
 have cx1a := x1a.c4
 have lx1a := lts0 x1a.lt
 go_wp2_with fail
 (with_reducible refine (t_direction _ b A n c D m e x (t) (k) ?_ ?_ ?_).mono ?_); (exact h); (omega); (omega); rintro e w2 ⟨b2, A2, n2, c2, A'2, n'2, c'2, d2, D2, m2, e2, D'2, m'2, e'2, rfl, h2, h'2, q2⟩
 clear cx1a lx1a
 replace h := h.belw q2
 replace x1a := x1a.b q2
 replace x1b := x1b.b q2
 have bw2 := bw1.trans (q2.mono bw1.size)
 have lw2 := q2.size
 clear q2 bw1
 have cx1b := x1b.c3
 have fx1b := x1b.f3
 have lx1b := lts1 x1b.lt
 go_wp2_with fail
 refine bodyPost_ret (v := .tuple #[.agg #[.bool d2, .slice D2 m2 e2, .slice D'2 m'2 e'2], .nilIface]) (by simp [results, Tryz.results19, go_sem, *] <;> trivial) rfl ?_
 exact ⟨d2, D2, m2, e2, D'2, m'2, e'2, rfl, h'2.keep ((((((Kp.refl w2).sb (w.heap.size + 1) 0 x1b.box (by decide) (.bool d2)).sb (w.heap.size + 1) 1 (x1b.box.set ⟨w.heap.size + 1, 0, none⟩ (.bool d2)) (by decide) (.slice D2 m2 e2)).sb (w.heap.size + 1) 2 ((x1b.box.set ⟨w.heap.size + 1, 0, none⟩ (.bool d2)).set ⟨w.heap.size + 1, 1, none⟩ (.slice D2 m2 e2)) (by decide) (.slice D'2 m'2 e'2)).alloc (.cells #[.bool b2, .slice A2 n2 c2, .slice A'2 n'2 c'2] 24)).alloc (.cells #[.bool d2, .slice D2 m2 e2, .slice D'2 m'2 e'2] 24)), (((((bw2.sc (w.heap.size + 1) 0 (by omega) (.bool d2)).sc (w.heap.size + 1) 1 (by omega) (.slice D2 m2 e2)).sc (w.heap.size + 1) 2 (by omega) (.slice D'2 m'2 e'2)).alloc (by first | omega | (simp <;> omega)) (.cells #[.bool b2, .slice A2 n2 c2, .slice A'2 n'2 c'2] 24)).alloc (by first | omega | (simp <;> omega)) (.cells #[.bool d2, .slice D2 m2 e2, .slice D'2 m'2 e'2] 24))⟩
end Go.Proofs.YtianjkiakkclgaaGreatDoor
