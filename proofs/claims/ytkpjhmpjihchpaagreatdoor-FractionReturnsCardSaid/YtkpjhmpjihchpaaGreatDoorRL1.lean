/- FractionReturns: texts are read back; the parts of a fraction make it; for every input the law returns true. The listed library variables are tied to the program text. -/
import Derived.Below
import Derived.Laws.OwnMore
import Derived.Deep.Draws
import Derived.OneCell
import Derived.Laws.Rows
import Derived.Test.YtkpjhmpjihchpaaGreatDoorProg
import Derived.WalkKit
import Derived.WalkSpells
import Derived.WalkLawsBesides
import Derived.BigQuiet
import Derived.Deep.QuietTactic
import Derived.Deep.AppendLies
import Derived.Lib.Hide
import Derived.Deep.RegionHeld3
import Derived.Deep.DrawnRows
import Derived.Shelf.Strings.Builder1
import Derived.Shelf.Strings.Builder2
import Derived.Shelf.Strings.OnBuilder
import Derived.Shelf.Strings.Trim
import Derived.Shelf.Small.Utf8
import Derived.Shelf.Small.Bits
import Derived.Shelf.Small.Strs
import Derived.Shelf.Strings.BuilderF
import Derived.Shelf.Strconv.Atoi
import Derived.Shelf.Strconv.Itoa0
import Derived.Shelf.Strconv.Itoa1
import Derived.Shelf.LaysM
import Derived.Shelf.Strconv.Itoa2
import Derived.Shelf.Strconv.Itoa3
import Derived.Shelf.Strings.Search1
import Derived.Shelf.Strings.Search2
import Derived.Shelf.Strings.Cut
import Derived.Shelf.Strings.Shaped
import Derived.Shelf.Strings.Prefix
import Derived.Shelf.Strings.Runes
import Derived.Shelf.Strings.AsciiSet
import Derived.Shelf.Bits.Mul64
import Derived.Shelf.Strings.Repeat
import Derived.Shelf.Unicode.DecodeSlow
import Derived.IntWalk
import Derived.Deep.DeepCutAuto
import Derived.Deep.RegionHeld
import Derived.Lib.ItoaNum
import Derived.Lib.ItoaMem
import Derived.Lib.Repeat
import Derived.Lib.Join
import Derived.Lib.IndexMore
import Derived.Lib.AppendIntMem
import Derived.Lib.Atoi
import Derived.Lib.SlTrimSet
import Derived.Shelf.Strings.SlTrimAscii
import Derived.Test.YtkpjhmpjihchpaaGreatDoorCards
import Derived.Test.YtkpjhmpjihchpaaGreatDoorTie
import Derived.ProofKit
import Derived.OpenShut
import Derived.Deep.DeepHandedRow
import Derived.Lib.LaidTab
import Derived.Shelf.Vars
import Derived.ChangeMaps5
import Derived.Test.YtkpjhmpjihchpaaGreatDoorA4
set_option linter.unusedVariables false
set_option maxHeartbeats 8000000
set_option maxRecDepth 100000
namespace Bn
theorem cmp_q (a b : Rat) : (a.num * b.den < b.num * a.den ↔ a < b) ∧ (a.num * b.den = b.num * a.den ↔ a = b) := by
  refine ⟨(Rat.lt_iff a b).symm, ?_⟩
  constructor
  · intro h
    rw [q_eq a, q_eq b]
    exact (Rat.divInt_eq_divInt_iff (den_ne a) (den_ne b)).2 h
  · rintro rfl; rfl

end Bn

namespace Go.Proofs.YtkpjhmpjihchpaaGreatDoor
open Go Go.RowKit Bn
attribute [local go_sem ↓] Go.wp_at_zero Go.wp_at_succ
theorem f_cmp (w : World) (b : Bool) (A : Option Addr) (n c : Nat) (D : Option Addr) (m e : Nat) (q : Rat) (k : Nat) (h : QZ w b A n c D m e q k) (b' : Bool) (A' : Option Addr) (n' c' : Nat) (D' : Option Addr) (m' e' : Nat) (q' : Rat) (k' : Nat) (h' : QZ w b' A' n' c' D' m' e' q' k') (h0 : 0 < k) (hk : k ≤ 40000000) (h0' : 0 < k') (hk' : k' ≤ 40000000) :
    Calls Tryz.prog 41 #[.agg #[.bool b, .slice A n c, .slice D m e], .agg #[.bool b', .slice A' n' c', .slice D' m' e']] w (RetV w (.int .i64 (cmpI (q.num * q'.den) (q'.num * q.den)))) := by
  go_enter Tryz.func41, Tryz.ntmps41
  go_wp2_with fail
  (with_reducible refine (f_parts _ b A n c D m e (q) (k) ?_ ?_ ?_).mono ?_); (exact (h.belw (((Below.refl _ _).alloc (Nat.le_refl _) _).alloc (by simp) _))); (first | omega | decide | assumption); (first | omega | decide | assumption); rintro e w1 ⟨b1, A1, n1, c1, b'1, A'1, n'1, c'1, rfl, h1, h'1, hb1⟩
  have q1 := (((Below.refl _ _).alloc (Nat.le_refl _) _).alloc (by simp) _).trans (hb1.mono (by simp <;> omega))
  replace h := h.belw q1
  replace h' := h'.belw q1
  have x1a : Blk w1 w.heap.size 24 #[.bool b, .slice A n c, .slice D m e] := ((blkAt _ _ _ (by simp)).alloc _).below hb1 (by simp <;> omega)
  have x1b := (blkAt _ _ _ (g := w.heap.size + 1) (by simp)).below hb1 (by simp)
  have bw1 := (brefl w).trans (q1.mono (brefl w).size)
  have lw1 : w.heap.size + 2 ≤ w1.heap.size := by have := hb1.size; simp at this; omega
  clear q1
  obtain ⟨cx1ba, cx1bb, cx1bc⟩ := x1b.c3
  obtain ⟨lx1ba, lx1bb, lx1bc, lx1bd⟩ := lts1 x1b.lt
  go_wp2_with fail
  (with_reducible refine (f_parts _ b' A' n' c' D' m' e' (q') (k') ?_ ?_ ?_).mono ?_); (exact (h'.belw (((Below.refl _ _).alloc (Nat.le_refl _) _).alloc (by simp) _))); (first | omega | decide | assumption); (first | omega | decide | assumption); rintro e w2 ⟨b2, A2, n2, c2, b'2, A'2, n'2, c'2, rfl, h2, h'2, hb2⟩
  clear cx1ba cx1bb cx1bc lx1ba lx1bb lx1bc lx1bd
  have q2 := (((Below.refl _ _).alloc (Nat.le_refl _) _).alloc (by simp) _).trans (hb2.mono (by simp <;> omega))
  replace h := h.belw q2
  replace h' := h'.belw q2
  replace h1 := h1.belw q2
  replace h'1 := h'1.belw q2
  replace x1a := x1a.b q2
  replace x1b := x1b.b q2
  have x2a : Blk w2 w1.heap.size 46 #[.bool b1, .slice A1 n1 c1] := ((blkAt _ _ _ (by simp)).alloc _).below hb2 (by simp <;> omega)
  have x2b := (blkAt _ _ _ (g := w1.heap.size + 1) (by simp)).below hb2 (by simp)
  have bw2 := bw1.trans (q2.mono bw1.size)
  have lw2 : w1.heap.size + 2 ≤ w2.heap.size := by have := hb2.size; simp at this; omega
  clear q2 bw1
  go_wp2_with fail
  have p3 := (((Kp.refl w2).alloc (.cells #[.bool b2, .slice A2 n2 c2] 46)).alloc (.cells #[.bool b'2, .slice A'2 n'2 c'2] 46))
  have bw3 := ((bw2.alloc (by first | omega | (simp <;> omega)) (.cells #[.bool b2, .slice A2 n2 c2] 46)).alloc (by first | omega | (simp <;> omega)) (.cells #[.bool b'2, .slice A'2 n'2 c'2] 46))
  have x3a : Blk ((w2.alloc (.cells #[.bool b2, .slice A2 n2 c2] 46)).alloc (.cells #[.bool b'2, .slice A'2 n'2 c'2] 46)) w2.heap.size 46 #[.bool b2, .slice A2 n2 c2] := ((blkAt _ _ _ (by simp)).alloc (.cells #[.bool b'2, .slice A'2 n'2 c'2] 46))
  have x3b : Blk ((w2.alloc (.cells #[.bool b2, .slice A2 n2 c2] 46)).alloc (.cells #[.bool b'2, .slice A'2 n'2 c'2] 46)) (w2.heap.size + 1) 46 #[.bool b'2, .slice A'2 n'2 c'2] := (blkAt _ _ _ (by simp))
  replace x1a := ((x1a.alloc (.cells #[.bool b2, .slice A2 n2 c2] 46)).alloc (.cells #[.bool b'2, .slice A'2 n'2 c'2] 46))
  replace x1b := ((x1b.alloc (.cells #[.bool b2, .slice A2 n2 c2] 46)).alloc (.cells #[.bool b'2, .slice A'2 n'2 c'2] 46))
  replace x2a := ((x2a.alloc (.cells #[.bool b2, .slice A2 n2 c2] 46)).alloc (.cells #[.bool b'2, .slice A'2 n'2 c'2] 46))
  replace x2b := ((x2b.alloc (.cells #[.bool b2, .slice A2 n2 c2] 46)).alloc (.cells #[.bool b'2, .slice A'2 n'2 c'2] 46))
  have lw3 : w2.heap.size + 2 ≤ ((w2.alloc (.cells #[.bool b2, .slice A2 n2 c2] 46)).alloc (.cells #[.bool b'2, .slice A'2 n'2 c'2] 46)).heap.size := by simp
  generalize hE3 : ((w2.alloc (.cells #[.bool b2, .slice A2 n2 c2] 46)).alloc (.cells #[.bool b'2, .slice A'2 n'2 c'2] 46)) = w3 at p3 bw3 lw3 x3a x3b x1a x1b x2a x2b ⊢
  clear hE3
  replace h := h.keep p3
  replace h' := h'.keep p3
  replace h1 := h1.keep p3
  replace h'1 := h'1.keep p3
  replace h2 := h2.keep p3
  replace h'2 := h'2.keep p3
  clear bw2
  obtain ⟨lx1aa, lx1ab, lx1ac, lx1ad⟩ := lts0 x1a.lt
  obtain ⟨lx1ba, lx1bb, lx1bc, lx1bd⟩ := lts1 x1b.lt
  obtain ⟨cx2aa, cx2ab⟩ := x2a.c2
  obtain ⟨lx2aa, lx2ab, lx2ac, lx2ad⟩ := lts0 x2a.lt
  obtain ⟨cx2ba, cx2bb⟩ := x2b.c2
  obtain ⟨lx2ba, lx2bb, lx2bc, lx2bd⟩ := lts1 x2b.lt
  obtain ⟨cx3aa, cx3ab⟩ := x3a.c2
  obtain ⟨lx3aa, lx3ab, lx3ac, lx3ad⟩ := lts0 x3a.lt
  obtain ⟨cx3ba, cx3bb⟩ := x3b.c2
  obtain ⟨lx3ba, lx3bb, lx3bc, lx3bd⟩ := lts1 x3b.lt
  go_region_held3 (fun w' => Sees w3.heap.size w3 w') (first | with_reducible exact Sees.of (Nat.le_refl _) (by assumption) | with_reducible exact Sees.of (Nat.le_refl _) (brefl _).drew | exact Sees.of (Nat.le_refl _) (below_drewN (brefl _) 1) | exact Sees.of (Nat.le_refl _) (below_drewN (by assumption) _))
    (first
      | (go_at_call 106; (with_reducible refine (i_mul _ b1 A1 n1 c1 ((q).num) ((k)) ?_ b'2 A'2 n'2 c'2 (((q').den : Int)) ((k')) ?_ ?_).mono ?_); (exact h1.iz); (exact h'2.iz); (first | omega | decide | assumption); rintro e w4 ⟨b4, A4, n4, c4, rfl, h4, hb4⟩; replace hb4 := bnext (below_drewN (brefl _) 1) hb4; have q4 : Below w3.heap.size w3 w4 := bnext (brefl w3) hb4; replace h := h.belw hb4; replace h' := h'.belw hb4; replace h1 := h1.belw hb4; replace h'1 := h'1.belw hb4; replace h2 := h2.belw hb4; replace h'2 := h'2.belw hb4)
      | (go_at_call 106; (with_reducible refine (i_mul _ b2 A2 n2 c2 ((q').num) ((k')) ?_ b'1 A'1 n'1 c'1 (((q).den : Int)) ((k)) ?_ ?_).mono ?_); (exact h2.iz); (exact h'1.iz); (first | omega | decide | assumption); rintro e w5 ⟨b5, A5, n5, c5, rfl, h5, hb5⟩; have q5 : Below w3.heap.size w3 w5 := bnext q4 hb5; replace h := h.belw hb5; replace h' := h'.belw hb5; replace h1 := h1.belw hb5; replace h'1 := h'1.belw hb5; replace h2 := h2.belw hb5; replace h'2 := h'2.belw hb5; replace h4 := h4.belw hb5)
      | (go_at_call 59; (with_reducible refine (i_cmp _ b4 A4 n4 c4 (((q).num) * (((q').den : Int))) (((k)) + ((k'))) ?_ b5 A5 n5 c5 (((q').num) * (((q).den : Int))) (((k')) + ((k))) ?_ ?_).mono ?_); (exact h4.iz); (exact h5.iz); (first | omega | decide | assumption); rintro e w6 ⟨rfl, hb6⟩; have q6 : Below w3.heap.size w3 w6 := bnext q5 hb6; replace h := h.belw hb6; replace h' := h'.belw hb6; replace h1 := h1.belw hb6; replace h'1 := h'1.belw hb6; replace h2 := h2.belw hb6; replace h'2 := h'2.belw hb6; replace h4 := h4.belw hb6; replace h5 := h5.belw hb6))
  have bw6 := bw3.trans (q6.mono bw3.size)
  clear lx1aa lx1ab lx1ac lx1ad lx1ba lx1bb lx1bc lx1bd cx2aa cx2ab lx2aa lx2ab lx2ac lx2ad cx2ba cx2bb lx2ba lx2bb lx2bc lx2bd cx3aa cx3ab lx3aa lx3ab lx3ac lx3ad cx3ba cx3bb lx3ba lx3bb lx3bc lx3bd
  replace x1a := x1a.b q6
  replace x1b := x1b.b q6
  replace x2a := x2a.b q6
  replace x2b := x2b.b q6
  replace x3a := x3a.b q6
  replace x3b := x3b.b q6
  have lw6 := q6.size
  go_wp2_with fail
  go_ret
  exact retI rfl bw6
end Go.Proofs.YtkpjhmpjihchpaaGreatDoor

namespace Bn
def rcmp (a b : Rat) : Int := if a < b then -1 else if a = b then 0 else 1
theorem rcmp_zero {a b : Rat} : rcmp a b = 0 ↔ a = b := by
  unfold rcmp
  split
  · grind
  · split
    · simpa
    · simpa
end Bn

namespace Bn
open Go.Lib
theorem digit_ok {d : Nat} (h : d < 10) : isDg (UInt8.ofNat (48 + d)) = true ∧ dval (UInt8.ofNat (48 + d)) = d := by
  have e : (UInt8.ofNat (48 + d)).toNat = 48 + d := by simp; omega
  unfold isDg dval
  rw [e]
  simp; omega
theorem dec_all (n : Nat) : (decDigits n).all isDg = true ∧ decVal (decDigits n) = n := by
  induction n using Nat.strongRecOn with
  | ind n ih =>
    by_cases h : n < 10
    · rw [decDigits_one h]
      have h1 := digit_ok h
      generalize UInt8.ofNat (48 + n) = c at h1
      refine ⟨by rw [List.all_cons, h1.1]; rfl, ?_⟩
      rw [← List.nil_append [c], decVal_snoc, h1.2]; simp [decVal]
    · have e : decDigits n = decDigits (n / 10) ++ [UInt8.ofNat (48 + n % 10)] := by
        conv => lhs; rw [decDigits, dif_neg h]
      have h1 := ih (n / 10) (by omega)
      have h2 := digit_ok (Nat.mod_lt n (show 0 < 10 by omega))
      generalize UInt8.ofNat (48 + n % 10) = c at h2 e
      refine ⟨by rw [e, List.all_append, h1.1, List.all_cons, h2.1]; rfl, ?_⟩
      rw [e, decVal_snoc, h1.2, h2.2]; omega
theorem dec_head {n : Nat} (h : 0 < n) : ∃ c r, decDigits n = c :: r ∧ c ≠ 48 ∧ c ≠ 45 := by
  induction n using Nat.strongRecOn with
  | ind n ih =>
    by_cases h1 : n < 10
    · rw [decDigits_one h1]
      refine ⟨_, [], rfl, ?_, ?_⟩
      · intro e
        have := congrArg UInt8.toNat e
        simp at this; omega
      · intro e
        have := congrArg UInt8.toNat e
        simp at this; omega
    · have e : decDigits n = decDigits (n / 10) ++ [UInt8.ofNat (48 + n % 10)] := by
        conv => lhs; rw [decDigits, dif_neg h1]
      obtain ⟨c, r, h2, h3⟩ := ih (n / 10) (by omega) (by omega)
      exact ⟨c, r ++ [UInt8.ofNat (48 + n % 10)], by rw [e, h2]; rfl, h3⟩
theorem itoa_ok (z : Int) : okZ (itoa z) = true ∧ valZ (itoa z) = z := by
  rw [itoa_abs]
  rcases Nat.eq_zero_or_pos z.natAbs with h | h
  · have : z = 0 := by omega
    subst this
    rw [if_neg (by decide), show (0 : Int).natAbs = 0 from rfl, decDigits_one (by omega)]
    decide
  · obtain ⟨c, r, e, h1, h2⟩ := dec_head h
    have ha := dec_all z.natAbs
    by_cases hz : z < 0
    · rw [if_pos hz]
      have et : tailS ([45] ++ decDigits z.natAbs) = decDigits z.natAbs := rfl
      have em : headM ([45] ++ decDigits z.natAbs) = true := rfl
      unfold okZ valZ
      rw [et, em, ha.1, ha.2, e]
      simp [h1]; omega
    · rw [if_neg hz, List.nil_append]
      have et : tailS (decDigits z.natAbs) = decDigits z.natAbs := by rw [e]; unfold tailS; split <;> simp_all
      have em : headM (decDigits z.natAbs) = false := by rw [e]; unfold headM; split <;> simp_all
      unfold okZ valZ
      rw [et, em, ha.1, ha.2, e]
      simp [h1]; omega
end Bn

namespace Bn
open Go.Lib
theorem okZ_mem {l : List UInt8} (h : okZ l = true) {c : UInt8} (hc : c ∈ l) : isDg c = true ∨ c = 45 := by
  have h1 : (tailS l).all isDg = true := by unfold okZ at h; simp at h; simpa using h.1.2
  rw [List.all_eq_true] at h1
  unfold tailS at h1
  split at h1
  · rename_i r
    rcases List.mem_cons.1 hc with e | e
    · exact .inr e
    · exact .inl (h1 c e)
  · exact .inl (h1 c hc)
theorem okZ_slash {l : List UInt8} (h : okZ l = true) : 47 ∉ l ∧ 46 ∉ l := by
  constructor
  · intro hc
    rcases okZ_mem h hc with e | e
    · exact absurd e (by decide)
    · exact absurd e (by decide)
  · intro hc
    rcases okZ_mem h hc with e | e
    · exact absurd e (by decide)
    · exact absurd e (by decide)
end Bn

namespace Go.Proofs.YtkpjhmpjihchpaaGreatDoor
open Go Go.RowKit Bn
attribute [local go_sem ↓] Go.wp_at_zero Go.wp_at_succ
theorem cmpI_rc (a b : Rat) : cmpI (a.num * b.den) (b.num * a.den) = rcmp a b := by
  unfold cmpI rcmp
  have h := cmp_q a b
  by_cases h1 : a < b
  · rw [if_pos h1, if_pos (h.1.2 h1)]
  · rw [if_neg h1, if_neg (fun x => h1 (h.1.1 x))]
    by_cases h2 : a = b
    · rw [if_pos h2, if_pos (h.2.2 h2)]
    · rw [if_neg h2, if_neg (fun x => h2 (h.2.1 x))]
theorem f_cmp_v (w : World) (b : Bool) (A : Option Addr) (n c : Nat) (D : Option Addr) (m e : Nat) (q : Rat) (k : Nat) (h : QZ w b A n c D m e q k) (b' : Bool) (A' : Option Addr) (n' c' : Nat) (D' : Option Addr) (m' e' : Nat) (q' : Rat) (k' : Nat) (h' : QZ w b' A' n' c' D' m' e' q' k') (s : Int) (hs : rcmp q q' = s) (h0 : 0 < k) (hk : k ≤ 40000000) (h0' : 0 < k') (hk' : k' ≤ 40000000) : Calls Tryz.prog 41 #[.agg #[.bool b, .slice A n c, .slice D m e], .agg #[.bool b', .slice A' n' c', .slice D' m' e']] w (RetV w (.int .i64 s)) := by
  subst hs; rw [← cmpI_rc]; exact f_cmp w b A n c D m e q k h b' A' n' c' D' m' e' q' k' h' h0 hk h0' hk'
end Go.Proofs.YtkpjhmpjihchpaaGreatDoor

namespace Bn
open Go.Lib
theorem ratText_out (q : Rat) (hl : (ratText q).length ≤ 65536) : FracOut (ratText q) 0 q := by
  by_cases hd : q.den = 1
  · have e : ratText q = itoa q.num := if_pos hd
    rw [e] at hl ⊢
    have ho := itoa_ok q.num
    refine .whole hl (okZ_slash ho.1).2 (okZ_slash ho.1).1 ho.1 rfl ?_
    rw [ho.2]
    exact (Rat.ext (by simp) (by simp [hd]))
  · have e : ratText q = itoa q.num ++ 47 :: itoa (q.den : Int) := if_neg hd
    rw [e] at hl ⊢
    have hn := itoa_ok q.num
    have hm := itoa_ok (q.den : Int)
    have hp : 0 < q.den := q.den_pos
    refine .quo _ _ hl ?_ rfl (okZ_slash hn.1).1 ?_ rfl ?_
    · intro h
      rcases List.mem_append.1 h with h | h
      · exact (okZ_slash hn.1).2 h
      · rcases List.mem_cons.1 h with h | h
        · exact absurd h (by decide)
        · exact (okZ_slash hm.1).2 h
    · unfold quoOk
      rw [hn.1, hm.1, hn.2, hm.2]
      have h1 : Nat.gcd q.num.natAbs q.den = 1 := q.reduced
      simp [h1]
      omega
    · rw [hn.2, hm.2]
      rw [Rat.divInt_ofNat]; exact (Rat.mkRat_self q).symm
end Bn

namespace Go.Proofs.YtkpjhmpjihchpaaGreatDoor
open Go Go.RowKit Bn
attribute [local go_sem ↓] Go.wp_at_zero Go.wp_at_succ
theorem rsq1 {w : World} {g : Nat} {T : TypeId} {b : Bool} {A : Option Addr} {n c : Nat} {D : Option Addr} {m e : Nat}
    (hb : Blk w g T #[.bool b, .slice A n c, .slice D m e]) : RsQ w g 1 (fun i : Nat => n) (fun i : Nat => m) := by
  refine ⟨hb.lt, fun i hi => ?_⟩
  match i, hi with
  | 0, _ => exact ⟨_, _, _, _, _, hb.cell 0, hb.cell 1, hb.cell 2⟩
theorem QD.short2 {w : World} {b : Bool} {A D : Option Addr} {n c m e k : Nat} {r : RD} (h : QD w b A n c D m e r k) (hs : n ≤ 12 ∧ m ≤ 12) : QD w b A n c D m e r 12 := ⟨h.1, h.2.1, h.2.2.1, hs.1, hs.2⟩
end Go.Proofs.YtkpjhmpjihchpaaGreatDoor

namespace Go.Proofs.YtkpjhmpjihchpaaGreatDoor
open Go Go.RowKit Bn
attribute [local go_sem ↓] Go.wp_at_zero Go.wp_at_succ
theorem b_words (w : World) (A : Option Addr) (n c : Nat) (l : List Nat) (wa : Wd w A n c l) (A' : Option Addr) (n' c' : Nat) (wb : Wd w A' n' c' l) (hn : n ≤ 1000000000) :
  Calls Tryz.prog 128 #[.slice A n c, .slice A' n' c'] w (RetV w (.bool true)) := by
 have hnn : n' = n := by rw [wa.2.1, wb.2.1]
 subst hnn
 have HA := Lib.hid wa
 have HB := Lib.hid wb
 clear wa wb
 go_enter Tryz.func128, Tryz.ntmps128
 go_wp2_with fail
 go_loopw [5] (fun iv wr => ∃ (i q : Nat), i ≤ n' ∧ iv = .int .i64 (i : Nat) ∧ wr = w.drewN q) (fun iv _ => n' - (intOf iv).toNat)
 case atStart => exact ⟨0, 0, Nat.zero_le _, rfl, rfl⟩
 case round =>
  obtain ⟨i, q, hi, rfl, rfl⟩ := hrel
  by_cases hlt : i < n'
  ·obtain ⟨g, o, rfl, hc1⟩ := HA.out.at_ (by omega)
   obtain ⟨g', o', rfl, hc2⟩ := HB.out.at_ (by omega)
   have h1 := hc1 i hlt
   have h2 := hc2 i hlt
   have hi0 : (0 : Int) ≤ (i : Int) := by omega
   have hi1 : (i : Int) < (n' : Int) := by omega
   generalize wd l i = x at h1 h2
   clear hc1 hc2
   go_wp2_with fail
   go_quiet (fail)
   go_wp2
   go_roundw
   case rel => exact ⟨i + 1, _, by omega, by go_num, rfl⟩
   case measure => simp [intOf]; omega
  ·go_wp2
   go_ret
   exact retB rfl (by repeat (first | exact Below.refl _ _ | refine below_drewN ?_ _))
theorem b_rat (w : World) (b : Bool) (A : Option Addr) (n c : Nat) (D : Option Addr) (m e : Nat) (b' : Bool) (A' : Option Addr) (n' c' : Nat) (D' : Option Addr) (m' e' : Nat) (q : Rat) (k k' : Nat) (h : QV w b A n c D m e q k) (h' : QV w b' A' n' c' D' m' e' q k') (hk : k ≤ 1000000) :
  Calls Tryz.prog 80 #[.agg #[.bool b, .slice A n c, .slice D m e], .agg #[.bool b', .slice A' n' c', .slice D' m' e']] w (RetV w (.bool true)) := by
 obtain ⟨e1, ha, hd, hk1, hk2⟩ := h
 obtain ⟨e1', ha', hd', _, _⟩ := h'
 subst e1 e1'
 have HE : ((rd q).neg == (rd q).neg) = true := by simp
 have HA := Lib.hid (And.intro ha ha')
 have HD := Lib.hid (And.intro hd hd')
 clear ha ha' hd hd'
 go_enter Tryz.func80, Tryz.ntmps80
 go_wp2_with fail
 (with_reducible refine (b_words _ A n c (rd q).num ?_ A' n' c' ?_ ?_).mono ?_); (exact HA.out.1.keep (((Kp.refl _).alloc _).alloc _)); (exact HA.out.2.keep (((Kp.refl _).alloc _).alloc _)); (omega); rintro e w1 ⟨rfl, hb⟩
 have q1 : Below w.heap.size w w1 := (((Below.refl _ _).alloc (Nat.le_refl _) _).alloc (by simp) _).trans (hb.mono (by simp <;> omega))
 have x0 : Blk w1 w.heap.size 24 #[.bool (rd q).neg, .slice A n c, .slice D m e] := ((blkAt w _ _ rfl).alloc _).below hb (by simp <;> omega)
 have x1 : Blk w1 (w.heap.size + 1) 24 #[.bool (rd q).neg, .slice A' n' c', .slice D' m' e'] := (blkAt _ _ _ (by simp)).below hb (by simp)
 have c02 : w1.cell? ⟨w.heap.size, 2, none⟩ = some (.slice D m e) := x0.cell 2
 have c12 : w1.cell? ⟨w.heap.size + 1, 2, none⟩ = some (.slice D' m' e') := x1.cell 2
 clear hb
 go_wp2_with fail
 (with_reducible refine (b_words _ D m e (rd q).den ?_ D' m' e' ?_ ?_).mono ?_); (exact HD.out.1.belw q1); (exact HD.out.2.belw q1); (omega); rintro e w2 ⟨rfl, hb2⟩
 go_wp2_with fail
 go_ret
 exact ⟨rfl, q1.trans (hb2.mono q1.size)⟩
end Go.Proofs.YtkpjhmpjihchpaaGreatDoor

namespace Go.Proofs.YtkpjhmpjihchpaaGreatDoor
open Go Go.RowKit Bn
attribute [local go_sem ↓] Go.wp_at_zero Go.wp_at_succ
theorem b_rat2 (w : World) (b : Bool) (A : Option Addr) (n c : Nat) (D : Option Addr) (m e : Nat) (q : Rat) (k : Nat) (h : QV w b A n c D m e q k) (b' : Bool) (A' : Option Addr) (n' c' : Nat) (D' : Option Addr) (m' e' : Nat) (q' : Rat) (k' : Nat) (h' : QV w b' A' n' c' D' m' e' q' k') (he : q = q') (hk : k ≤ 1000000) : Calls Tryz.prog 80 #[.agg #[.bool b, .slice A n c, .slice D m e], .agg #[.bool b', .slice A' n' c', .slice D' m' e']] w (RetV w (.bool true)) := by
  subst he; exact b_rat w b A n c D m e b' A' n' c' D' m' e' q k k' h h' hk
theorem rs_same (w : World) (b : Bool) (A : Option Addr) (n c : Nat) (D : Option Addr) (m e : Nat) (q : Rat) (k : Nat) (h : QV w b A n c D m e q k) (b' : Bool) (A' : Option Addr) (n' c' : Nat) (D' : Option Addr) (m' e' : Nat) (q' : Rat) (k' : Nat) (h' : QV w b' A' n' c' D' m' e' q' k') (he : q = q') (hk : k ≤ 1000000) :
  Calls Tryz.prog 33 #[.agg #[.bool b, .slice A n c, .slice D m e], .agg #[.bool b', .slice A' n' c', .slice D' m' e']] w (RetV w (.bool true)) := by
 have HE := Lib.hid he
 clear he
 go_enter Tryz.func33, Tryz.ntmps33
 go_wp2_with fail
 (with_reducible refine (b_rat2 _ b A n c D m e (q) (k) ?_ b' A' n' c' D' m' e' (q') (k') ?_ ?_ ?_).mono ?_); (exact (h.belw (((Below.refl _ _).alloc (Nat.le_refl _) _).alloc (by simp) _))); (exact (h'.belw (((Below.refl _ _).alloc (Nat.le_refl _) _).alloc (by simp) _))); (exact HE.out); (omega); rintro e w1 ⟨rfl, hb1⟩
 have q1 := (((Below.refl _ _).alloc (Nat.le_refl _) _).alloc (by simp) _).trans (hb1.mono (by simp <;> omega))
 replace h := h.belw q1
 replace h' := h'.belw q1
 have x1a : Blk w1 w.heap.size 24 #[.bool b, .slice A n c, .slice D m e] := ((blkAt _ _ _ (by simp)).alloc _).below hb1 (by simp <;> omega)
 have x1b := (blkAt _ _ _ (g := w.heap.size + 1) (by simp)).below hb1 (by simp)
 have bw1 := (brefl w).trans (q1.mono (brefl w).size)
 have lw1 : w.heap.size + 2 ≤ w1.heap.size := by have := hb1.size; simp at this; omega
 clear q1
 go_wp2_with fail
 go_ret
 exact retB rfl bw1
end Go.Proofs.YtkpjhmpjihchpaaGreatDoor

namespace Go.Proofs.YtkpjhmpjihchpaaGreatDoor
open Go Go.RowKit Bn
attribute [local go_sem ↓] Go.wp_at_zero Go.wp_at_succ
theorem QZ.short2 {w : World} {b : Bool} {A D : Option Addr} {n c m e k : Nat} {q : Rat} (h : QZ w b A n c D m e q k) (hs : n ≤ 12 ∧ m ≤ 12) : QZ w b A n c D m e q 12 := by
  obtain ⟨a, h, e⟩ := h
  exact ⟨a, h.short2 hs, e⟩
theorem f_valid_v (w : World) (b : Bool) (A : Option Addr) (n c : Nat) (D : Option Addr) (m e : Nat) (q : Rat) (k : Nat) (h : QV w b A n c D m e q k) (hk : k ≤ 300000000) : Calls Tryz.prog 31 #[.agg #[.bool b, .slice A n c, .slice D m e]] w (RetV w (.bool true)) := by
  have := f_valid w b A n c D m e (rd q) k h hk
  rw [rd_ok] at this
  exact this
end Go.Proofs.YtkpjhmpjihchpaaGreatDoor

/- Walks: FractionReturns. -/
namespace Go.Proofs.YtkpjhmpjihchpaaGreatDoor
open Go Go.RowKit Bn
attribute [local go_sem ↓] Go.wp_at_zero Go.wp_at_succ
theorem txq_out {q : Rat} (hs : Sz q 12) : FracOut (ratText q) 0 q := by
  refine ratText_out q ?_
  have h1 := itoa_le (z := q.num) hs.1 (Nat.le_refl 12) (by decide)
  have h2 := itoa_le (z := (q.den : Int)) (k := 12) (by simpa using hs.2) (Nat.le_refl 12) (by decide)
  by_cases h : q.den = 1
  · rw [ratText_1 h]; omega
  · rw [ratText_2 h, List.length_append, List.length_cons]; omega
theorem f_parse_t (w : World) (s : List UInt8) (q : Rat) (hmx : Mx w) (h : FracOut s 0 q) : Calls Tryz.prog 37 #[strV s] w (RetFe w .nilIface q 65536) := by
  have := f_parse_o w s 0 q hmx h
  rw [errV_0] at this
  exact this
theorem l_FractionReturns (w : World) (b : Bool) (A : Option Addr) (n c : Nat) (D : Option Addr) (m e : Nat) (q : Rat) (k : Nat) (H : QZ w b A n c D m e q k) (htab : Tab w) (hmx : Mx w) :
  Calls Tryz.prog 6 #[.agg #[.bool b, .slice A n c, .slice D m e]] w (RetV w (.bool true)) := by
 obtain ⟨T, hT⟩ : ∃ T, ratText q = T := ⟨_, rfl⟩
 have HT := Lib.hid hT
 clear hT
 go_enter Tryz.func6, Tryz.ntmps6
 go_wp2_with fail
 (with_reducible refine (l2_short _ (w.heap.size + 1) 1 (fun i : Nat => n) (fun i : Nat => m) ?_ ?_).mono ?_); (exact rsq1 (blkAt _ _ _ (by simp))); (decide); rintro e w1 ⟨r1, rfl, hr1, hb1⟩
 have q1 := (((Below.refl _ _).alloc (Nat.le_refl _) _).alloc (by simp) _).trans (hb1.mono (by simp <;> omega))
 replace H := H.belw q1
 have x1a : Blk w1 w.heap.size 24 #[.bool b, .slice A n c, .slice D m e] := ((blkAt _ _ _ (by simp)).alloc _).below hb1 (by simp <;> omega)
 have x1b := (blkAt _ _ _ (g := w.heap.size + 1) (by simp)).below hb1 (by simp)
 have bw1 := (brefl w).trans (q1.mono (brefl w).size)
 have lw1 : w.heap.size + 2 ≤ w1.heap.size := by have := hb1.size; simp at this; omega
 clear q1
 cases r1
 ·clear hr1
  go_wp2_with fail
  (with_reducible refine (l2_awake _  ?_ ?_).mono ?_); (exact htab.belw bw1); (exact hmx.belw bw1); rintro e w2 ⟨rfl, q2⟩
  replace H := H.belw q2
  replace x1a := x1a.b q2
  replace x1b := x1b.b q2
  have bw2 := bw1.trans (q2.mono bw1.size)
  have lw2 := q2.size
  clear q2 bw1
  go_wp2_with fail
  go_ret
  exact retB rfl bw2
 ·replace H := QZ.short2 H (hr1 rfl 0 (by decide))
  clear hr1
  go_wp2_with fail
  (with_reducible refine (l2_awake _  ?_ ?_).mono ?_); (exact htab.belw bw1); (exact hmx.belw bw1); rintro e w2 ⟨rfl, q2⟩
  replace H := H.belw q2
  replace x1a := x1a.b q2
  replace x1b := x1b.b q2
  have bw2 := bw1.trans (q2.mono bw1.size)
  have lw2 := q2.size
  clear q2 bw1
  obtain ⟨cx1aa, cx1ab, cx1ac⟩ := x1a.c3
  obtain ⟨lx1aa, lx1ab, lx1ac, lx1ad⟩ := lts0 x1a.lt
  go_wp2_with fail
  have HP : Hid (FracOut T 0 q) := Lib.hid (HT.out ▸ txq_out (H.sz (by decide)))
  have HS := Lib.hid (H.sz (by decide))
  (with_reducible refine (f_text _ b A n c D m e (q) (12) ?_ (by omega) (by omega) (htab.belw bw2) T HT.out).mono ?_); (exact H); rintro e w3 ⟨rfl, q3⟩
  clear cx1aa cx1ab cx1ac lx1aa lx1ab lx1ac lx1ad
  replace H := H.belw q3
  replace x1a := x1a.b q3
  replace x1b := x1b.b q3
  have bw3 := bw2.trans (q3.mono bw2.size)
  have lw3 := q3.size
  clear q3 bw2
  go_wp2_with fail
  (with_reducible refine (f_parse_t _ (T) q (hmx.belw bw3) HP.out).mono ?_); rintro e w4 ⟨b4, A4, n4, c4, A'4, n'4, c'4, rfl, h4, q4⟩
  replace H := H.belw q4
  replace x1a := x1a.b q4
  replace x1b := x1b.b q4
  have bw4 := bw3.trans (q4.mono bw3.size)
  have lw4 := q4.size
  clear q4 bw3
  obtain ⟨cx1aa, cx1ab, cx1ac⟩ := x1a.c3
  obtain ⟨lx1aa, lx1ab, lx1ac, lx1ad⟩ := lts0 x1a.lt
  go_wp2_with fail
  (with_reducible refine (f_parts _ b A n c D m e (q) (12) ?_ ?_ ?_).mono ?_); (exact (H.belw ((Below.refl _ _).alloc (Nat.le_refl _) _))); (first | omega | decide | assumption); (first | omega | decide | assumption); rintro e w5 ⟨b5, A5, n5, c5, b'5, A'5, n'5, c'5, rfl, h5, h'5, hb5⟩
  clear cx1aa cx1ab cx1ac lx1aa lx1ab lx1ac lx1ad
  have q5 := ((Below.refl _ _).alloc (Nat.le_refl _) _).trans (hb5.mono (by simp))
  replace H := H.belw q5
  replace h4 := h4.belw q5
  replace x1a := x1a.b q5
  replace x1b := x1b.b q5
  have x5a : Blk w5 w4.heap.size 24 #[.bool b4, .slice A4 n4 c4, .slice A'4 n'4 c'4] := (blkAt _ _ _ (by simp)).below hb5 (by simp)
  have bw5 := bw4.trans (q5.mono bw4.size)
  have lw5 : w4.heap.size + 1 ≤ w5.heap.size := by have := hb5.size; simp at this; omega
  clear q5 bw4
  go_wp2_with fail
  (with_reducible refine (f_from _ b5 A5 n5 c5 ((q).num) ((12)) ?_ b'5 A'5 n'5 c'5 (((q).den : Int)) ((12)) ?_ q 12 ?_ ?_ ?_ ?_).mono ?_); (exact (h5.belw (((Below.refl _ _).alloc (Nat.le_refl _) _).alloc (by simp) _)).iz); (exact (h'5.belw (((Below.refl _ _).alloc (Nat.le_refl _) _).alloc (by simp) _)).iz); (exact den_ne _); (exact (q_eq q).symm); (exact HS.out); (decide); rintro e w6 ⟨b6, A6, n6, c6, A'6, n'6, c'6, rfl, h6, hb6⟩
  have q6 := (((Below.refl _ _).alloc (Nat.le_refl _) _).alloc (by simp) _).trans (hb6.mono (by simp <;> omega))
  replace H := H.belw q6
  replace h4 := h4.belw q6
  replace h5 := h5.belw q6
  replace h'5 := h'5.belw q6
  replace x1a := x1a.b q6
  replace x1b := x1b.b q6
  replace x5a := x5a.b q6
  have x6a : Blk w6 w5.heap.size 46 #[.bool b5, .slice A5 n5 c5] := ((blkAt _ _ _ (by simp)).alloc _).below hb6 (by simp <;> omega)
  have x6b := (blkAt _ _ _ (g := w5.heap.size + 1) (by simp)).below hb6 (by simp)
  have bw6 := bw5.trans (q6.mono bw5.size)
  have lw6 : w5.heap.size + 2 ≤ w6.heap.size := by have := hb6.size; simp at this; omega
  clear q6 bw5
  obtain ⟨cx5aa, cx5ab, cx5ac⟩ := x5a.c3
  obtain ⟨lx5aa, lx5ab, lx5ac, lx5ad⟩ := lts0 x5a.lt
  go_wp2_with fail
  (with_reducible refine (f_valid_v _ b4 A4 n4 c4 A'4 n'4 c'4 (q) (65536) ?_ ?_).mono ?_); (exact (h4.belw ((Below.refl _ _).alloc (Nat.le_refl _) _))); (first | omega | decide | assumption); rintro e w7 ⟨rfl, hb7⟩
  clear cx5aa cx5ab cx5ac lx5aa lx5ab lx5ac lx5ad
  have q7 := ((Below.refl _ _).alloc (Nat.le_refl _) _).trans (hb7.mono (by simp))
  replace H := H.belw q7
  replace h4 := h4.belw q7
  replace h5 := h5.belw q7
  replace h'5 := h'5.belw q7
  replace h6 := h6.belw q7
  replace x1a := x1a.b q7
  replace x1b := x1b.b q7
  replace x5a := x5a.b q7
  replace x6a := x6a.b q7
  replace x6b := x6b.b q7
  have x7a : Blk w7 w6.heap.size 24 #[.bool b6, .slice A6 n6 c6, .slice A'6 n'6 c'6] := (blkAt _ _ _ (by simp)).below hb7 (by simp)
  have bw7 := bw6.trans (q7.mono bw6.size)
  have lw7 : w6.heap.size + 1 ≤ w7.heap.size := by have := hb7.size; simp at this; omega
  clear q7 bw6
  obtain ⟨cx1aa, cx1ab, cx1ac⟩ := x1a.c3
  obtain ⟨lx1aa, lx1ab, lx1ac, lx1ad⟩ := lts0 x1a.lt
  obtain ⟨cx5aa, cx5ab, cx5ac⟩ := x5a.c3
  obtain ⟨lx5aa, lx5ab, lx5ac, lx5ad⟩ := lts0 x5a.lt
  go_wp2_with fail
  (with_reducible refine (f_cmp_v _ b4 A4 n4 c4 A'4 n'4 c'4 (q) (65536) ?_ b A n c D m e (q) (12) ?_ 0 (rcmp_zero.2 rfl) ?_ ?_ ?_ ?_).mono ?_); (exact h4.qz); (exact H); (first | omega | decide | assumption); (first | omega | decide | assumption); (first | omega | decide | assumption); (first | omega | decide | assumption); rintro e w8 ⟨rfl, q8⟩
  clear cx1aa cx1ab cx1ac lx1aa lx1ab lx1ac lx1ad cx5aa cx5ab cx5ac lx5aa lx5ab lx5ac lx5ad
  replace H := H.belw q8
  replace h4 := h4.belw q8
  replace h5 := h5.belw q8
  replace h'5 := h'5.belw q8
  replace h6 := h6.belw q8
  replace x1a := x1a.b q8
  replace x1b := x1b.b q8
  replace x5a := x5a.b q8
  replace x6a := x6a.b q8
  replace x6b := x6b.b q8
  replace x7a := x7a.b q8
  have bw8 := bw7.trans (q8.mono bw7.size)
  have lw8 := q8.size
  clear q8 bw7
  obtain ⟨cx5aa, cx5ab, cx5ac⟩ := x5a.c3
  obtain ⟨lx5aa, lx5ab, lx5ac, lx5ad⟩ := lts0 x5a.lt
  obtain ⟨cx7aa, cx7ab, cx7ac⟩ := x7a.c3
  obtain ⟨lx7aa, lx7ab, lx7ac, lx7ad⟩ := lts0 x7a.lt
  go_wp2_with fail
  (with_reducible refine (rs_same _ b4 A4 n4 c4 A'4 n'4 c'4 (q) (65536) ?_ b6 A6 n6 c6 A'6 n'6 c'6 (q) (12) ?_  ?_ ?_).mono ?_); (exact h4); (exact h6); (exact rfl); (omega); rintro e w9 ⟨rfl, q9⟩
  clear cx5aa cx5ab cx5ac lx5aa lx5ab lx5ac lx5ad cx7aa cx7ab cx7ac lx7aa lx7ab lx7ac lx7ad
  replace H := H.belw q9
  replace h4 := h4.belw q9
  replace h5 := h5.belw q9
  replace h'5 := h'5.belw q9
  replace h6 := h6.belw q9
  replace x1a := x1a.b q9
  replace x1b := x1b.b q9
  replace x5a := x5a.b q9
  replace x6a := x6a.b q9
  replace x6b := x6b.b q9
  replace x7a := x7a.b q9
  have bw9 := bw8.trans (q9.mono bw8.size)
  have lw9 := q9.size
  clear q9 bw8
  go_wp2_with fail
  go_ret
  exact retB rfl bw9
end Go.Proofs.YtkpjhmpjihchpaaGreatDoor

/- FractionReturns: texts are read back; the parts of a fraction make it; for every input the law returns true. The listed library variables are tied to the program text. -/
namespace Go.Proofs.YtkpjhmpjihchpaaGreatDoor
open Go Go.RowKit Bn Go.ChangeShapes Go.WideShapes Go.ChangeAt
theorem returns_contract (H : Type) (enc : TypeId × Value → H) (W : World) (base : Nat) (args : Array Value) (ds gs : List (DataW H)) (before : List MemPlace)
    (hval0 : ∀ (j : Nat) t v, Tryz.f6.params[j]? = some t → args[j]? = some v → Value.okWide Tryz.prog W .any base t v)
    (hW : DataW.Whole enc Tryz.prog Tryz.f6.params.toList Rows.fractionReturnsSpec.vars false W args.toList ds gs before) (hL : laidMetH Tryz.prog Rows.fractionReturnsRow.laid W) (hsh : W.ShapedOpen Tryz.prog) :
    Calls Tryz.prog 6 args W fun e W' => ∃ v, e = .returned v ∧ Rows.fractionReturnsSpec.post enc Tryz.prog Tryz.f6 false true false false W args v W' := by
  have hval : ∀ (j : Nat) t v, Tryz.f6.params[j]? = some t → args[j]? = some v → Value.okWide Tryz.prog W .any base t v := hval0
  have htab : Tab W := tab_of_laid hL
  have hmx : Mx W := mx_of_shaped hsh
  have hW' := hW
  obtain ⟨p, q, hA0, hV, rfl, hfz, hnd⟩ := hW
  have hA : DataW.TrodAll enc Tryz.prog W 0 (fun _ => true) true Tryz.f6.params.toList args.toList ds p := hA0
  rw [Tryz.params6] at hA hval
  obtain ⟨v0, d0, rfl, rfl, h0⟩ := trodAll_one hA
  obtain ⟨rfl, rfl⟩ := trodVars_none hV
  obtain ⟨b, A, n, c, D, m, e, r, k, rfl, H⟩ := frac_open (hval 0 _ v0 rfl rfl) h0
  refine (l_FractionReturns W b A n c D m e r.q k ⟨r, H, rfl⟩ htab hmx).mono fun e W' ⟨he, hb⟩ => ?_
  subst he
  exact ⟨_, rfl, law_post laid_out Tryz.underlying4 hW' rfl rfl (by kernel_rfl) rfl rfl rfl hb⟩
theorem returns_lifted (os : Os) (started : os.Started) (H : Type) (enc : TypeId × Value → H) (F : Stop.Interp) :
    ReturnsInHanded {} Tryz.checked os 6 .any ((OpenSpec.ofChange Rows.fractionReturnsSpec).preRow enc Tryz.prog Tryz.f6 Rows.fractionReturnsRow.domain false Rows.fractionReturnsRow.laid) (((OpenSpec.ofChange Rows.fractionReturnsSpec).at F).post enc Tryz.prog Tryz.f6 false true false false) := by
  have hx : DataW.whole enc Tryz.prog ((laidWorld os).forCall (fun _ _ => 0) ⟨#[], #[.agg #[.bool false, .slice none 0 0, .slice none 0 0]], []⟩).memory Tryz.f6.params.toList Rows.fractionReturnsSpec.vars false (#[.agg #[.bool false, .slice none 0 0, .slice none 0 0]] : Array Value).toList 8 = some ([.agg [.lit (.bool false), .nil, .nil]], [], []) := by kernel_rfl
  have hl : laidMet Tryz.prog Rows.fractionReturnsRow.laid ((laidWorld os).forCall (fun _ _ => 0) ⟨#[], #[.agg #[.bool false, .slice none 0 0, .slice none 0 0]], []⟩).memory := laidMet_of_run' 8 (by kernel_rfl) (by kernel_rfl)
  refine returnsInHanded_of_row (C := Tryz.checked) (s := OpenSpec.ofChange Rows.fractionReturnsSpec) own_knob started (by kernel_rfl) Tryz.func6
    (witness_row_at (enc := enc) (C := Tryz.checked) false (laidWorld os) #[.agg #[.bool false, .slice none 0 0, .slice none 0 0]] rfl (by kernel_rfl) (by kernel_rfl) (by kernel_rfl)
      (OpenSpec.preRow_of_cond 8 hx (by kernel_rfl) (fun k hk => by cases hk) (by kernel_rfl) hl)) ?_
  intro W base args ds gs before hval hW _ _ _ hL hsh _
  exact returns_contract H enc W base args ds gs before hval hW hL hsh
theorem returns_j2 : (Rows.fractionReturnsRow.inPlace == Tryz.pinned.checked.prog.inPlace 6) = true := by kernel_rfl
theorem returns_j3 : (Rows.fractionReturnsRow.unfollowed == Tryz.pinned.checked.prog.unfollowed 6) = true := by kernel_rfl
theorem returns_j4 : (Rows.fractionReturnsRow.recurses == Tryz.pinned.checked.prog.recurses 6) = true := by kernel_rfl
theorem returns_j5 : (Rows.fractionReturnsRow.named == Tryz.pinned.checked.prog.varsNamed 6) = true := by kernel_rfl
theorem returns_joined : joinedFacts Tryz.pinned.checked.prog 6 Tryz.f6 (OpenSpec.ofChange Rows.fractionReturnsSpec).bare Rows.fractionReturnsRow = true := joined_parts (by kernel_rfl) returns_j2 returns_j3 returns_j4 returns_j5 (by kernel_rfl)
theorem returns_inst : Tryz.f6.isInstance Tryz.pinned.checked.prog Rows.fractionReturnsRow.origin Rows.fractionReturnsRow.targs := of_decide_eq_true (by kernel_rfl)
theorem returns_said : Rows.FractionReturnsSaid :=
  OpenClaim.holds_of_cond 6 Tryz.f6 rfl rfl rfl rfl rfl rfl rfl ⟨rfl, rfl, rfl, rfl, rfl⟩ rfl rfl rfl rfl rfl (by kernel_rfl) Tryz.func6 returns_joined
    returns_inst (by unfold Func.isWrapper; first | (rw [if_pos (by decide +kernel)]; kernel_rfl) | (rw [if_neg (by decide +kernel)]; exact ⟨rfl, rfl⟩))
    (fun os started H enc _ F => by rw [OpenClaim.pre_eq_preRow]; exact returns_lifted os started H enc F)
theorem returns_plain (f : FuncId) (fn : Func) (hf : Tryz.pinned.checked.prog.funcNamed "linkwork/linkworklaw02.FractionReturns" = some f) (hfn : Tryz.pinned.checked.prog.funcs[f]? = some fn) :
    true = Tryz.pinned.checked.prog.looks [] ∧ ∀ (j : Nat) t, fn.params[j]? = some t → Tryz.pinned.checked.prog.wantsStandIn t = false := by
  obtain rfl : f = 6 := Option.some.inj ((show Tryz.prog.funcNamed "linkwork/linkworklaw02.FractionReturns" = some 6 by kernel_rfl).symm.trans hf) |>.symm
  obtain rfl : fn = Tryz.f6 := (Option.some.inj (Tryz.func6.symm.trans hfn)).symm
  refine ⟨by kernel_rfl, fun j t ht => ?_⟩
  rw [Tryz.params6] at ht
  have hm : t ∈ [24] := by
    have := Array.mem_of_getElem? ht
    simp at this ⊢
    first
      | exact this
      | exact .inl this
  have hall : ([24].all fun u => !Tryz.prog.wantsStandIn u) = true := by kernel_rfl
  exact (show Tryz.prog.wantsStandIn t = false by simpa using List.all_eq_true.1 hall t hm)
theorem returns_holds : Rows.FractionReturnsCardSaid :=
  Claim7.holds_tied_plain_at .later [] _ _ _ _ returns_said (fun _ h => by cases h) (by kernel_rfl) (fun _ h => by cases h) fractionReturns_row_tie rfl ⟨rfl, rfl⟩ (by kernel_rfl) rfl returns_plain (by kernel_rfl)
end Go.Proofs.YtkpjhmpjihchpaaGreatDoor
