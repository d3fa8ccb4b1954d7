/- Part DM5: lemmas and walks that the claim rests on. No claim is made here. -/
import Derived.Deep.RegionHeld3
import Derived.BigQuiet
import Derived.Deep.DrawnRows
import Derived.Laws.StructEq
import Derived.Test.YtmfdifjkjkaheaaGreatDoorDM4
set_option linter.unusedVariables false
set_option maxHeartbeats 8000000
set_option maxRecDepth 100000
/- Walks: the reader's small methods: fail, next, word, expect, sign, more, number. -/
namespace Go.Proofs.YtmfdifjkjkaheaaGreatDoor
open Go Go.RowKit Bn
attribute [local go_sem ↓] Go.wp_at_zero Go.wp_at_succ
section
variable {w : World} {g t : Nat} {a0 a1 a2 a3 a4 a5 : Value}
theorem Blk.s60 (h : Blk w g t #[a0, a1, a2, a3, a4, a5]) (u : Value) : Blk (w.setCell ⟨g, 0, none⟩ u) g t #[u, a1, a2, a3, a4, a5] := h.set_ 0 u
theorem Blk.s61 (h : Blk w g t #[a0, a1, a2, a3, a4, a5]) (u : Value) : Blk (w.setCell ⟨g, 1, none⟩ u) g t #[a0, u, a2, a3, a4, a5] := h.set_ 1 u
theorem Blk.s62 (h : Blk w g t #[a0, a1, a2, a3, a4, a5]) (u : Value) : Blk (w.setCell ⟨g, 2, none⟩ u) g t #[a0, a1, u, a3, a4, a5] := h.set_ 2 u
theorem Blk.s63 (h : Blk w g t #[a0, a1, a2, a3, a4, a5]) (u : Value) : Blk (w.setCell ⟨g, 3, none⟩ u) g t #[a0, a1, a2, u, a4, a5] := h.set_ 3 u
theorem Blk.s64 (h : Blk w g t #[a0, a1, a2, a3, a4, a5]) (u : Value) : Blk (w.setCell ⟨g, 4, none⟩ u) g t #[a0, a1, a2, a3, u, a5] := h.set_ 4 u
theorem Blk.s65 (h : Blk w g t #[a0, a1, a2, a3, a4, a5]) (u : Value) : Blk (w.setCell ⟨g, 5, none⟩ u) g t #[a0, a1, a2, a3, a4, u] := h.set_ 5 u
end
theorem next_some {s s' : PS} {k : Nat} {t : List UInt8} (h : s.next k = (some t, s')) : s' = s ∧ s.x = 0 ∧ ∃ t0 r, s.toks = t0 :: r ∧ t0.kind = k ∧ t0.text = t := by
 unfold PS.next at h;split at h
 ·cases h
 rename_i hx;split at h
 ·cases h
 rename_i t0 r e;split at h
 ·rename_i hk
  injection h with h1 h2;injection h1 with h1;exact ⟨h2.symm, by simpa using hx, t0, r, e, hk, h1⟩
 cases h
theorem rd_fail (w : World) (gr : Nat) (c0 c1 c2 c3 c4 : Value) (x e : Int) (hb : Blk w gr 124 #[c0, c1, c2, c3, c4, errV x]) (he : e ≠ 0) : Calls Tryz.prog 79 #[.pointer (some ⟨gr, 0, none⟩), .iface 57 (.int .i64 e)] w (fun en w' => en = .returned (.tuple #[]) ∧ Blk w' gr 124 #[c0, c1, c2, c3, c4, errV (if x = 0 then e else x)] ∧ w.grownBy w' (some gr)) := by
 have hlt := hb.lt;have f5 := hb.frozen 5;have ee := eVp he;by_cases hx : x = 0
 ·subst hx
  have HB := Lib.hid hb;obtain ⟨_, _, _, _, _, a5⟩ := hb.c6;rw [errV_0] at a5;rw [if_pos rfl, ee];clear hb ee;go_enter Tryz.func79, Tryz.ntmps79;go_wp2_with fail;go_end0;exact ⟨rfl, HB.out.s65 _, rg_set (rg_refl _ _) _ _⟩
 rw [if_neg hx];have HB := Lib.hid hb;obtain ⟨_, _, _, _, _, a5⟩ := hb.c6;rw [eVp hx] at a5;clear hb ee;go_enter Tryz.func79, Tryz.ntmps79;go_wp2_with fail;go_end0;exact ⟨rfl, HB.out, rg_refl _ _⟩
theorem rd_next (B : Nat) (w : World) (gr : Nat) (c1 c2 c3 c4 : Value) (s : PS) (h : RdP B w gr c1 c2 c3 c4 s) (k : Nat) (z : Int) (hz : z = (k : Int)) : Calls Tryz.prog 127 #[.pointer (some ⟨gr, 0, none⟩), .int .i64 z] w (RetR B w gr c1 c2 c3 c4 (.tuple #[strV ((s.next k).1.getD []), .bool (s.next k).1.isSome]) (s.next k).2) := by
 subst hz;have HP := Lib.hid h;obtain ⟨toks, L, x⟩ := s;obtain ⟨A, n, c, hb, ht⟩ := h.blk;have hmx := h.mx;have hB := h.hB;have hlen := h.len;have hw := h.hw;have htx := h.txt;simp only at hb ht hlen htx;have HB := Lib.hid hb;have HT := Lib.hid ht;have HM := Lib.hid hmx;have hn := ht.1;obtain ⟨a0, _, _, _, _, a5⟩ := hb.c6;clear hb ht hmx h;by_cases hx : x = 0
 ·subst hx
  rw [errV_0] at a5
  cases toks with
  | nil =>
   have e : PS.next ⟨[], L, 0⟩ k = (none, ⟨[], L, 18⟩) := rfl;rw [e];subst hn;go_enter Tryz.func127, Tryz.ntmps127;go_wp2_with fail;(with_reducible refine (rd_fail _ gr (.slice A 0 c) c1 c2 c3 c4 0 18 HB.out (by decide)).mono ?_); rintro e w1 ⟨rfl, hb1, hg1⟩;rw [if_pos rfl] at hb1;have HB1 := Lib.hid hb1;clear hb1;go_wp2_with fail;refine bodyPost_ret (v := .tuple #[strV [], .bool false]) (by simp [results, Tryz.results127, go_sem, *] <;> trivial) rfl ?_;exact ⟨rfl, ⟨⟨A, 0, c, HB1.out, HT.out.rg hB hg1⟩, HM.out.rg hB hg1, hB, hlen, htx, hw⟩, hg1⟩
  | cons t r =>
   have hn1 : 0 < n := by rw [← hn]; simp
   obtain ⟨g, o, e, hg, d0, d1, d2, d3⟩ := HT.out.head;subst e;have hi0 : (0 : Int) < (n : Int) := by omega
   by_cases hk : t.kind = k
   ·have e : PS.next ⟨t :: r, L, 0⟩ k = (some t.text, ⟨t :: r, L, 0⟩) := by unfold PS.next; rw [if_neg (by simp)]; simp [hk]
    rw [e];have hk1 : ((t.kind : Int) == (k : Int)) = true := by simp [hk]
    have hk2 : ((n : Int) == 0) = false := beq_eq_false_iff_ne.2 (by omega);clear hn hk;go_enter Tryz.func127, Tryz.ntmps127;go_wp2_with fail;refine bodyPost_ret (v := .tuple #[strV t.text, .bool true]) (by simp [results, Tryz.results127, go_sem, *] <;> trivial) rfl ?_;exact ⟨rfl, HP.out.alloc _, rg_alloc (rg_refl _ _) _⟩
   have e : PS.next ⟨t :: r, L, 0⟩ k = (none, ⟨t :: r, L, 2⟩) := by unfold PS.next; rw [if_neg (by simp)]; simp [hk]
   rw [e];have hk1 : ((t.kind : Int) == (k : Int)) = false := beq_eq_false_iff_ne.2 (by omega);have hk2 : ((n : Int) == 0) = false := beq_eq_false_iff_ne.2 (by omega);clear hn hk;go_enter Tryz.func127, Tryz.ntmps127;go_wp2_with fail;(with_reducible refine (rd_fail _ gr (.slice (some ⟨g, o, none⟩) n c) c1 c2 c3 c4 0 2 (HB.out.alloc _) (by decide)).mono ?_); rintro e w1 ⟨rfl, hb1, hg1⟩;rw [if_pos rfl] at hb1;have HB1 := Lib.hid hb1;have hg2 := rg_trans (rg_alloc (rg_refl gr w) _) hg1;clear hb1 hg1;go_wp2_with fail;refine bodyPost_ret (v := .tuple #[strV [], .bool false]) (by simp [results, Tryz.results127, go_sem, *] <;> trivial) rfl ?_;exact ⟨rfl, ⟨⟨_, n, c, HB1.out, HT.out.rg hB hg2⟩, HM.out.rg hB hg2, hB, hlen, htx, hw⟩, hg2⟩
 have e : PS.next ⟨toks, L, x⟩ k = (none, ⟨toks, L, x⟩) := if_pos hx;rw [e];rw [eVp hx] at a5;go_enter Tryz.func127, Tryz.ntmps127;go_wp2_with fail;refine bodyPost_ret (v := .tuple #[strV [], .bool false]) (by simp [results, Tryz.results127, go_sem, *] <;> trivial) rfl ?_;exact ⟨rfl, HP.out, rg_refl _ _⟩
theorem RdP.drop {B : Nat} {w : World} {gr n c n' c' : Nat} {A A' : Option Addr} {c1 c2 c3 c4 : Value} {s : PS} {t0 : Tkn} {r : List Tkn} (h : RdP B w gr c1 c2 c3 c4 s) (e : s.toks = t0 :: r)
 (hb : Blk w gr 124 #[.slice A n c, c1, c2, c3, c4, errV s.x]) (ht : TkA B w A n c s.toks) (hA : A' = if c = 1 then A else A.map (·.add 4)) (hn : n' = n - 1) (hc : c' = c - 1) : RdP B (w.setCell ⟨gr, 0, none⟩ (.slice A' n' c')) gr c1 c2 c3 c4 s.drop1 := by
 have hr := rg_set (rg_refl gr w) 0 (.slice A' n' c');have e1 : s.drop1.toks = r := by unfold PS.drop1; rw [e]; rfl
 rw [e] at ht;exact ⟨⟨A', n', c', hb.s60 _, by rw [e1]; exact (ht.tail hA hn hc).rg h.hB hr⟩, h.mx.rg h.hB hr, h.hB, by rw [e1]; have := h.len; rw [e] at this; simp at this; omega, fun t ht => h.txt t (by rw [e]; rw [e1] at ht; exact List.mem_cons_of_mem _ ht), h.hw⟩
theorem rd_word (B : Nat) (w : World) (gr : Nat) (c1 c2 c3 c4 : Value) (s : PS) (h : RdP B w gr c1 c2 c3 c4 s) : Calls Tryz.prog 69 #[.pointer (some ⟨gr, 0, none⟩)] w (RetR B w gr c1 c2 c3 c4 (strV s.word.1) s.word.2) := by
 have HP := Lib.hid h;obtain ⟨W, hW⟩ : ∃ W, s.word = W := ⟨_, rfl⟩;rw [hW];have HW := Lib.hid hW;clear h hW;go_enter Tryz.func69, Tryz.ntmps69;go_wp2_with fail;(with_reducible refine (rd_next B _ gr c1 c2 c3 c4 s HP.out 0 0 rfl).mono ?_); rintro e w1 ⟨rfl, h1, hg1⟩;have hW := HW.out;unfold PS.word at hW;generalize hq : s.next 0 = q at h1 hW;obtain ⟨o, s'⟩ := q
 cases o with
 | none =>
  simp only [Option.getD_none, Option.isSome_none] at h1 hW ⊢;subst hW;have H1 := Lib.hid h1;clear hq h1 HW;go_wp2_with fail;go_ret;exact ⟨rfl, H1.out, hg1⟩
 | some t =>
  simp only [Option.getD_some, Option.isSome_some] at h1 hW ⊢;subst hW;obtain ⟨e, hx, t0, r, et, _, _⟩ := next_some hq;obtain ⟨A, n, c, hb, ht⟩ := h1.blk;have hn : (1 : Int) ≤ (n : Int) := by have := ht.1; rw [e, et] at this; simp at this; omega
  have f0 := hb.frozen 0;obtain ⟨a0, _, _, _, _, _⟩ := hb.c6;have H1 := Lib.hid h1;have HB := Lib.hid hb;have HT := Lib.hid ht;have HE := Lib.hid (show s'.toks = t0 :: r by rw [e, et]);clear h1 hb ht hq e et hx HW;go_wp2_with fail
  all_goals
   go_ret;exact ⟨rfl, H1.out.drop HE.out HB.out HT.out (by simp [Addr.add, *]) rfl (by omega), rg_set hg1 _ _⟩
theorem rd_expect (B : Nat) (w : World) (gr : Nat) (c1 c2 c3 c4 : Value) (s : PS) (h : RdP B w gr c1 c2 c3 c4 s) (k : Nat) (z : Int) (hz : z = (k : Int)) (text : List UInt8) : Calls Tryz.prog 68 #[.pointer (some ⟨gr, 0, none⟩), .int .i64 z, strV text] w (RetR B w gr c1 c2 c3 c4 (.tuple #[]) (s.expect k text)) := by
 have HP := Lib.hid h;have HZ := Lib.hid hz;obtain ⟨W, hW⟩ : ∃ W, s.expect k text = W := ⟨_, rfl⟩;rw [hW];have HW := Lib.hid hW;clear h hz hW;go_enter Tryz.func68, Tryz.ntmps68;go_wp2_with fail;(with_reducible refine (rd_next B _ gr c1 c2 c3 c4 s HP.out k z HZ.out).mono ?_); rintro e w1 ⟨rfl, h1, hg1⟩;have hW := HW.out;unfold PS.expect at hW;generalize hq : s.next k = q at h1 hW;obtain ⟨o, s'⟩ := q
 cases o with
 | none =>
  simp only [Option.getD_none, Option.isSome_none] at h1 hW ⊢;subst hW;have H1 := Lib.hid h1;clear hq h1 HW;go_wp2_with fail;go_end0;exact ⟨rfl, H1.out, hg1⟩
 | some t =>
  simp only [Option.getD_some, Option.isSome_some] at h1 hW ⊢;obtain ⟨e, hx, t0, r, et, _, _⟩ := next_some hq;have ht1 := toList_v t;have ht2 := toList_v text;obtain ⟨A, n, c, hb, ht⟩ := h1.blk;have hn : (1 : Int) ≤ (n : Int) := by have := ht.1; rw [e, et] at this; simp at this; omega
  have f0 := hb.frozen 0;obtain ⟨a0, _, _, _, _, a5⟩ := hb.c6;have H1 := Lib.hid h1;have HB := Lib.hid hb;have HT := Lib.hid ht;have HE := Lib.hid (show s'.toks = t0 :: r by rw [e, et]);have HX := Lib.hid (show s'.x = 0 by rw [e]; exact hx);clear h1 hb ht hq e et hx a5 HW;by_cases heq : t = text
  ·rw [if_pos heq] at hW
   subst hW;subst heq;have hee : (t == t) = true := by simp
   go_wp2_with fail
   all_goals
    go_end0;exact ⟨rfl, H1.out.drop HE.out HB.out HT.out (by simp [Addr.add, *]) rfl (by omega), rg_set hg1 _ _⟩
  rw [if_neg heq] at hW;have e2 : s'.fail 2 = { s' with x := 2 } := if_pos HX.out;rw [e2] at hW;subst hW;have hee : (t == text) = false := beq_eq_false_iff_ne.2 heq;clear heq;go_wp2_with fail;(with_reducible refine (rd_fail _ gr (.slice A n c) c1 c2 c3 c4 s'.x 2 HB.out (by decide)).mono ?_); rintro e w2 ⟨rfl, hb2, hg2⟩;rw [if_pos HX.out] at hb2;have HB2 := Lib.hid hb2;clear hb2;go_wp2_with fail;go_end0;exact ⟨rfl, ⟨⟨A, n, c, HB2.out, HT.out.rg H1.out.hB hg2⟩, H1.out.mx.rg H1.out.hB hg2, H1.out.hB, H1.out.len, H1.out.txt, H1.out.hw⟩, rg_trans hg1 hg2⟩
theorem rd_sign (B : Nat) (w : World) (gr : Nat) (c1 c2 c3 c4 : Value) (s : PS) (h : RdP B w gr c1 c2 c3 c4 s) (text : List UInt8) : Calls Tryz.prog 70 #[.pointer (some ⟨gr, 0, none⟩), strV text] w (RetR B w gr c1 c2 c3 c4 (.tuple #[]) (s.expect 2 text)) := by
 have HP := Lib.hid h;clear h;go_enter Tryz.func70, Tryz.ntmps70;go_wp2_with fail;(with_reducible refine (rd_expect B _ gr c1 c2 c3 c4 s HP.out 2 2 rfl text).mono ?_); rintro e w1 ⟨rfl, h1, hg1⟩;have H1 := Lib.hid h1;clear h1;go_wp2_with fail;go_end0;exact ⟨rfl, H1.out, hg1⟩
theorem rd_more (B : Nat) (w : World) (gr : Nat) (c1 c2 c3 c4 : Value) (s : PS) (h : RdP B w gr c1 c2 c3 c4 s) (v : Bool) (hv : decide (s.x = 0 ∧ s.toks ≠ []) = v) : Calls Tryz.prog 71 #[.pointer (some ⟨gr, 0, none⟩)] w (RetR B w gr c1 c2 c3 c4 (.bool v) s) := by
 have HP := Lib.hid h;subst hv;obtain ⟨A, n, c, hb, ht⟩ := h.blk;have hn := ht.1;obtain ⟨a0, _, _, _, _, a5⟩ := hb.c6;clear hb ht h;by_cases hx : s.x = 0
 ·rw [hx, errV_0] at a5
  by_cases ht : s.toks = []
  ·have e : decide (s.x = 0 ∧ s.toks ≠ []) = false := by simp [ht]
   rw [e];have hn0 : n = 0 := by rw [← hn, ht]; rfl
   subst hn0;clear hn;go_enter Tryz.func71, Tryz.ntmps71;go_wp2_with fail;go_ret;exact ⟨rfl, HP.out, rg_refl _ _⟩
  have e : decide (s.x = 0 ∧ s.toks ≠ []) = true := by simp [ht, hx]
  rw [e];have hp : 0 < s.toks.length := List.length_pos_iff.2 ht;have hn0 : (0 < n) = True := eq_true (by omega);clear hn;go_enter Tryz.func71, Tryz.ntmps71;go_wp2_with fail;go_ret;exact ⟨rfl, HP.out, rg_refl _ _⟩
 have e : decide (s.x = 0 ∧ s.toks ≠ []) = false := by simp [hx]
 rw [e];rw [eVp hx] at a5;go_enter Tryz.func71, Tryz.ntmps71;go_wp2_with fail;go_ret;exact ⟨rfl, HP.out, rg_refl _ _⟩
def RetN (B : Nat) (w : World) (gr : Nat) (c1 c2 c3 c4 : Value) (q : Rat) (s : PS) (e : Ending) (w' : World) : Prop :=
  ∃ b A n c D m e', e = .returned (.agg #[.bool b, .slice A n c, .slice D m e']) ∧ QV w' b A n c D m e' q 130 ∧ RdP B w' gr c1 c2 c3 c4 s ∧ w.grownBy w' (some gr)
theorem qv_zero (w : World) (k : Nat) : QV w false none 0 0 none 0 0 0 k := by
 unfold QV;rw [rd_zero];exact ⟨rfl, Wd.nil_ w, Wd.nil_ w, Nat.zero_le _, Nat.zero_le _⟩
theorem QD.alloc_ {w : World} {b : Bool} {A D : Option Addr} {n c m e k : Nat} {r : RD} (h : QD w b A n c D m e r k) (o : Obj) : QD (w.alloc o) b A n c D m e r k := h.belw ((Below.refl _ _).alloc (Nat.le_refl _) o)
theorem number_fin {B : Nat} {w : World} {gr z n c n' c' : Nat} {A A' : Option Addr} {c1 c2 c3 c4 : Value} {s : PS} {t0 : Tkn} {r : List Tkn} (h : RdP B w gr c1 c2 c3 c4 s) (e : s.toks = t0 :: r)
 (hb : Blk w gr 124 #[.slice A n c, c1, c2, c3, c4, errV s.x]) (ht : TkA B w A n c s.toks) (hA : A' = if c = 1 then A else A.map (·.add 4)) (hn : n' = n - 1) (hc : c' = c - 1)
 (hz : gr < z) (Z : Blk w z 88 #[.bool false, .slice none 0 0, .slice none 0 0]) {b : Bool} {A2 D2 : Option Addr} {n2 d2 m2 e2 k : Nat} {q : RD} (hq : QD w b A2 n2 d2 D2 m2 e2 q k) (u0 u1 u2 : Value) (o : Obj) :
 QD (((((w.setCell ⟨gr, 0, none⟩ (.slice A' n' c')).setCell ⟨z, 0, none⟩ u0).setCell ⟨z, 1, none⟩ u1).setCell ⟨z, 2, none⟩ u2).alloc o) b A2 n2 d2 D2 m2 e2 q k ∧
 RdP B (((((w.setCell ⟨gr, 0, none⟩ (.slice A' n' c')).setCell ⟨z, 0, none⟩ u0).setCell ⟨z, 1, none⟩ u1).setCell ⟨z, 2, none⟩ u2).alloc o) gr c1 c2 c3 c4 s.drop1 := by
 have h1 := h.drop e hb ht hA hn hc;have t1 : Tch TA w (w.setCell ⟨gr, 0, none⟩ (.slice A' n' c')) := h.tch (rg_set (rg_refl gr w) 0 _) rfl;have Z1 : Blk (w.setCell ⟨gr, 0, none⟩ (.slice A' n' c')) z 88 #[.bool false, .slice none 0 0, .slice none 0 0] := Z.far (by show z ≠ gr; omega) _;exact ⟨((hq.tch t1).tch (tch_sets Z1 rfl 0 1 2 u0 u1 u2)).alloc_ o, (h1.bel1 (bel_sets _ hz 0 1 2 u0 u1 u2)).alloc o⟩
theorem rd_number (B : Nat) (w : World) (gr : Nat) (c1 c2 c3 c4 : Value) (s : PS) (h : RdP B w gr c1 c2 c3 c4 s) : Calls Tryz.prog 141 #[.pointer (some ⟨gr, 0, none⟩)] w (RetN B w gr c1 c2 c3 c4 s.number.1 s.number.2) := by
 have HP := Lib.hid h;have hlt := h.lt;obtain ⟨W, hW⟩ : ∃ W, s.number = W := ⟨_, rfl⟩;rw [hW];have HW := Lib.hid hW;clear h hW;go_enter Tryz.func141, Tryz.ntmps141;go_wp2_with fail;(with_reducible refine (rd_next B _ gr c1 c2 c3 c4 s (HP.out.alloc _) 1 1 rfl).mono ?_); rintro e w1 ⟨rfl, h1, hg1⟩;have z1 : Blk w1 w.heap.size 88 #[.bool false, .slice none 0 0, .slice none 0 0] := rg_blk hg1 (Blk.new _ _ _) (by omega);have G1 : w.grownBy w1 (some gr) := rg_trans (rg_alloc (rg_refl gr w) _) hg1;clear hg1;have hlz := z1.lt;have hW := HW.out;unfold PS.number at hW;generalize hq : s.next 1 = q at h1 hW;obtain ⟨o, s'⟩ := q
 cases o with
 | none =>
  simp only [Option.getD_none, Option.isSome_none] at h1 hW ⊢;subst hW;obtain ⟨cz0, cz1, cz2⟩ := z1.c3;obtain ⟨fz0, fz1, fz2⟩ := z1.f3;have H1 := Lib.hid h1;have Z1 := Lib.hid z1;clear hq h1 z1 HW;go_wp2_with fail;refine bodyPost_ret (v := .agg #[.bool false, .slice none 0 0, .slice none 0 0]) (by simp [results, Tryz.results141, go_sem, *] <;> trivial) rfl ?_;exact ⟨_, _, _, _, _, _, _, rfl, qv_zero _ _, ((H1.out.far hlt _).far hlt _).far hlt _, rg_far (rg_far (rg_far G1 (Nat.le_refl _) _) (Nat.le_refl _) _) (Nat.le_refl _) _⟩
 | some t =>
  simp only [Option.getD_some, Option.isSome_some] at h1 hW ⊢;obtain ⟨e, hx, t0, r, et, _, _⟩ := next_some hq;have HV := Lib.hid (val_out t);generalize valX t = x at HV hW;generalize valQ t = qv at HV hW;have HE := Lib.hid (show s'.toks = t0 :: r by rw [e, et]);have HX := Lib.hid (show s'.x = 0 by rw [e]; exact hx);have H1 := Lib.hid h1;have Z1 := Lib.hid z1;have HW2 := Lib.hid hW;clear h1 hq e et hx z1 hW HW;go_wp2_with fail;(with_reducible refine (t_value_o _ t x qv H1.out.mx.out HV.out).mono ?_); rintro e w2 ⟨b2, A2, n2, d2, D2, m2, e2, rfl, h2, hb2⟩;have G2 := rg_below G1 hb2;have z2 := Z1.out.below hb2 hlz;have r2 := H1.out.belw hb2;have hlw := hb2.size;clear hb2 G1;have hgl := r2.lt;have hlz2 := z2.lt;have R2 := Lib.hid r2;have Z2 := Lib.hid z2;have HQ2 := Lib.hid h2;obtain ⟨A, n, c, hb, ht⟩ := r2.blk;have hB := r2.hB;have HB := Lib.hid hb;have HT := Lib.hid ht;clear Z1 H1 r2 z2 h2 ht;by_cases hx0 : x = 0
  ·have hW := HW2.out
   rw [if_neg (by simp [hx0])] at hW;subst hW hx0;rw [errV_0];have hn : (1 : Int) ≤ (n : Int) := by have := HT.out.1; rw [HE.out] at this; simp at this; omega
   have f0 := hb.frozen 0;obtain ⟨a0, _, _, _, _, _⟩ := hb.c6;obtain ⟨cz0, cz1, cz2⟩ := Z2.out.c3;obtain ⟨fz0, fz1, fz2⟩ := Z2.out.f3;clear hb HW2;have hne1 : ¬ gr = w2.heap.size := by omega
   have hne2 : ¬ w.heap.size = w2.heap.size := by omega
   have hne3 : ¬ gr = w.heap.size := by omega
   go_wp2_with fail
   all_goals
    refine bodyPost_ret (v := .agg #[.bool b2, .slice A2 n2 d2, .slice D2 m2 e2]) (by simp [results, Tryz.results141, go_sem, *] <;> trivial) rfl ?_;exact ⟨_, _, _, _, _, _, _, rfl, (number_fin R2.out HE.out HB.out HT.out (by simp [Addr.add, *]) rfl (by omega) hlt Z2.out HQ2.out _ _ _ _).1, (number_fin R2.out HE.out HB.out HT.out (by simp [Addr.add, *]) rfl (by omega) hlt Z2.out HQ2.out _ _ _ _).2, rg_alloc (rg_far (rg_far (rg_far (rg_set G2 _ _) (Nat.le_refl _) _) (Nat.le_refl _) _) (Nat.le_refl _) _) _⟩
  have hW := HW2.out;rw [if_pos hx0] at hW;subst hW;rw [eVp hx0];clear hb HW2;go_wp2_with fail;(with_reducible refine (rd_fail _ gr (.slice A n c) c1 c2 c3 c4 s'.x x (HB.out.alloc _) hx0).mono ?_); rintro e w3 ⟨rfl, hb3, hg3⟩;rw [if_pos HX.out] at hb3;have g3 := rg_trans (rg_alloc (rg_refl gr w2) _) hg3;have z3 := rg_blk g3 Z2.out (by omega);obtain ⟨cz0, cz1, cz2⟩ := z3.c3;obtain ⟨fz0, fz1, fz2⟩ := z3.f3;have HB3 := Lib.hid hb3;have hl3 := z3.lt;clear hb3 hg3 z3;go_wp2_with fail;refine bodyPost_ret (v := .agg #[.bool false, .slice none 0 0, .slice none 0 0]) (by simp [results, Tryz.results141, go_sem, *] <;> trivial) rfl ?_;have e2 : s'.fail x = { s' with x := x } := if_pos HX.out;rw [e2];have R3 : RdP B w3 gr c1 c2 c3 c4 { s' with x := x } := ⟨⟨A, n, c, HB3.out, HT.out.rg hB g3⟩, R2.out.mx.rg hB g3, hB, R2.out.len, R2.out.txt, R2.out.hw⟩;exact ⟨_, _, _, _, _, _, _, rfl, qv_zero _ _, ((R3.far hlt _).far hlt _).far hlt _, rg_far (rg_far (rg_far (rg_trans G2 g3) (Nat.le_refl _) _) (Nat.le_refl _) _) (Nat.le_refl _) _⟩
def RetBd (B : Nat) (w : World) (gr : Nat) (c1 c2 c3 c4 : Value) (b : BodyL) (s : PS) (e : Ending) (w' : World) : Prop :=
  ∃ A n c, e = .returned (.agg #[strV b.name, .slice A n c]) ∧ MksT 130 w' A n c b.pts ∧ NmL b.name ∧ RdP B w' gr c1 c2 c3 c4 s ∧ w.grownBy w' (some gr)
section
variable {w : World} {g t : Nat} {a0 a1 a2 a3 a4 a5 a6 : Value}
theorem Blk.x7 (h : Blk w g t #[a0, a1, a2, a3, a4, a5, a6]) (u0 u1 u2 : Value) : Blk (((w.setCell ⟨g, 1, none⟩ u0).setCell ⟨g, 2, none⟩ u1).setCell ⟨g, 3, none⟩ u2) g t #[a0, u0, u1, u2, a4, a5, a6] := ((h.set_ 1 u0).set_ 2 u1).set_ 3 u2
theorem Blk.y7 (h : Blk w g t #[a0, a1, a2, a3, a4, a5, a6]) (u0 u1 u2 : Value) : Blk (((w.setCell ⟨g, 4, none⟩ u0).setCell ⟨g, 5, none⟩ u1).setCell ⟨g, 6, none⟩ u2) g t #[a0, a1, a2, a3, u0, u1, u2] := ((h.set_ 4 u0).set_ 5 u1).set_ 6 u2
theorem Blk.f7 (h : Blk w g t #[a0, a1, a2, a3, a4, a5, a6]) : w.frozen? ⟨g, 0, none⟩ = false ∧ w.frozen? ⟨g, 1, none⟩ = false ∧ w.frozen? ⟨g, 2, none⟩ = false ∧ w.frozen? ⟨g, 3, none⟩ = false ∧ w.frozen? ⟨g, 4, none⟩ = false ∧ w.frozen? ⟨g, 5, none⟩ = false ∧ w.frozen? ⟨g, 6, none⟩ = false := ⟨h.frozen 0, h.frozen 1, h.frozen 2, h.frozen 3, h.frozen 4, h.frozen 5, h.frozen 6⟩
theorem Blk.s21 (h : Blk w g t #[a0, a1]) (u : Value) : Blk (w.setCell ⟨g, 1, none⟩ u) g t #[a0, u] := h.set_ 1 u
end
theorem MksT.of_row {w : World} {base n c : Nat} {A : Option Addr} {l : List MarkL} (h : RowT 90 (MkC 130) 7 w base (.slice A n c) n l) : MksT 130 w A n c l := h.slT fun _ _ _ _ h1 h2 => h1.at_ h2
theorem OwJ.far {J : Value → Bool} {w : World} {base n size : Nat} {e : TypeId} {v : Value} {xs : List Value} (h : OwJ J w base e size v n xs) {p : Addr} (hp : some p.block ≠ v.ownBlock) (u : Value) : OwJ J (w.setCell p u) base e size v n xs := by
 refine ⟨h.1, ?_⟩;rcases h.2 with h1 | ⟨g, cap, cur, rfl, h2, h3, h4⟩
 ·exact .inl h1
 exact .inr ⟨g, cap, cur, rfl, h2, (Below.heap_setCell w p u g (fun e => hp (by simp [Value.ownBlock, e]))).trans h3, h4⟩
theorem own_ne {J : Value → Bool} {w : World} {base n size g t : Nat} {e : TypeId} {v : Value} {xs : List Value} {cs : Array Value} (h : OwJ J w base e size v n xs) (hb : Blk w g t cs) (ht : t ≠ e) : some g ≠ v.ownBlock := by
 intro e1;obtain ⟨_, cur, h2, _⟩ := h.at_ e1.symm;unfold Blk at hb;rw [h2] at hb;injection hb with hb;injection hb with _ hb;exact ht hb.symm
theorem TkA.first {B : Nat} {w : World} {A : Option Addr} {n c : Nat} {s : PS} (ht : TkA B w A n c s.toks) : (n = 0 ∧ s.signHead = false) ∨ (0 < n ∧ ∃ g o, ∃ k : Nat, A = some ⟨g, o, none⟩ ∧ w.cell? ⟨g, o, none⟩ = some (.int .i64 (k : Nat)) ∧ s.signHead = decide (k = 2)) := by
 obtain ⟨toks, L, x⟩ := s
 cases toks with
 | nil => exact .inl ⟨ht.1.symm, rfl⟩
 | cons t r =>
  obtain ⟨g, o, e, _, d0, _⟩ := ht.head;refine .inr ⟨by rw [← ht.1]; simp, g, o, t.kind, e, d0, ?_⟩;show (t.kind == 2) = _;rfl
structure BdR (B : Nat) (w : World) (gr gb : Nat) (c1 c2 c3 c4 : Value) (nm : List UInt8) (wr : World) (s : PS) (l : List MarkL) (pv : Value) : Prop where
  rd : RdP B wr gr c1 c2 c3 c4 s
  rg : w.grownBy wr (some gr)
  out : Blk wr w.heap.size 45 #[strV [], .slice none 0 0]
  b : Blk wr gb 45 #[strV nm, pv]
  row : RowT 90 (MkC 130) 7 wr gb pv l.length l
  lt : gr < w.heap.size ∧ w.heap.size < gb
section
variable {B : Nat} {w : World} {gr gb : Nat} {c1 c2 c3 c4 : Value} {nm : List UInt8} {wr w3 : World} {s s3 : PS} {l : List MarkL} {pv : Value}
theorem BdR.call (h : BdR B w gr gb c1 c2 c3 c4 nm wr s l pv) (h3 : RdP B w3 gr c1 c2 c3 c4 s3) (g3 : wr.grownBy w3 (some gr)) : BdR B w gr gb c1 c2 c3 c4 nm w3 s3 l pv :=
 ⟨h3, rg_trans h.rg g3, rg_blk g3 h.out (by have := h.lt; omega), rg_blk g3 h.b (by have := h.lt; omega), h.row.rg (by have := h.lt; omega) g3 (fun _ _ x => x.tch (h.rd.tch g3 (T := TA) rfl)), h.lt⟩
theorem BdR.fin {A : Option Addr} {n c : Nat} (h : BdR B w gr gb c1 c2 c3 c4 nm wr s l (.slice A n c)) (u v : Value) : RdP B ((wr.setCell ⟨w.heap.size, 0, none⟩ u).setCell ⟨w.heap.size, 1, none⟩ v) gr c1 c2 c3 c4 s ∧ w.grownBy ((wr.setCell ⟨w.heap.size, 0, none⟩ u).setCell ⟨w.heap.size, 1, none⟩ v) (some gr) ∧ MksT 130 ((wr.setCell ⟨w.heap.size, 0, none⟩ u).setCell ⟨w.heap.size, 1, none⟩ v) A n c l := by
 obtain ⟨h1, h2⟩ := h.lt;refine ⟨(h.rd.far h1 _).far h1 _, rg_far (rg_far h.rg (Nat.le_refl _) _) (Nat.le_refl _) _, ?_⟩
 have hn : l.length = n := by
  obtain ⟨A', c', e, _⟩ := h.row.form;injection e with _ e _;exact e.symm
 have hr := h.row;rw [hn] at hr
 have ht : Tch TA wr ((wr.setCell ⟨w.heap.size, 0, none⟩ u).setCell ⟨w.heap.size, 1, none⟩ v) :=
  Tch.of_ne (by simp [World.setCell]) h.out rfl rfl fun g' _ hne => by rw [Below.heap_setCell _ _ _ _ hne, Below.heap_setCell _ _ _ _ hne]
 exact MksT.of_row (hr.same (fun g cur hg hc => by rw [Below.heap_setCell _ _ _ _ (by show g ≠ w.heap.size; omega), Below.heap_setCell _ _ _ _ (by show g ≠ w.heap.size; omega)]; exact hc) (fun _ _ x => x.tch ht))
theorem BdR.b5 {xs : List Value} {w5 : World} (h : BdR B w gr gb c1 c2 c3 c4 nm wr s l pv) (hown : OwJ noW wr gb 90 7 pv l.length xs) (o : Obj) (hgrow : (wr.alloc o).grownBy w5 pv.ownBlock) : Blk w5 gb 45 #[strV nm, pv] :=
 (h.b.alloc o).grown hgrow (own_ne hown h.b (by decide))
theorem BdR.push {xs : List Value} {w5 : World} {v' : Value} {cs : List Value} {m : MarkL} {o : Obj} (h : BdR B w gr gb c1 c2 c3 c4 nm wr s l pv) (hown : OwJ noW wr gb 90 7 pv l.length xs) (hrow : RowC (MkC 130) 7 wr l xs)
 (hm : MkC 130 wr cs m) (hcs : cs.length = 7) (hown5 : OwJ noW w5 gb 90 7 v' (l.length + 1) (xs ++ cs)) (hgrow : (wr.alloc o).grownBy w5 pv.ownBlock) : BdR B w gr gb c1 c2 c3 c4 nm (w5.setCell ⟨gb, 1, none⟩ v') s (l ++ [m]) v' := by
 obtain ⟨h1, h2⟩ := h.lt;have b5 := h.b5 hown o hgrow;have hs := h.b.lt;have hb5 : Below gb wr w5 := ((Below.refl gb wr).alloc (by omega) o).grown hgrow (by simp; omega) (fun k hk => (hown.at_ hk).1);have hb6 : Below gb wr (w5.setCell ⟨gb, 1, none⟩ v') := hb5.setCell (p := ⟨gb, 1, none⟩) (Nat.le_refl _) v';have hownA : OwJ noW (wr.alloc o) gb 90 7 pv l.length xs := hown.belw ((Below.refl _ _).alloc (Nat.le_refl _) o);obtain ⟨A, c, hpv, _⟩ := h.row.form;have ht : Tch TA wr (w5.setCell ⟨gb, 1, none⟩ v') := ((Tch.below ((Below.refl _ _).alloc (Nat.le_refl _) o)).trans (Tch.grown (T := TA) (fun _ hu => hu) rfl hownA hgrow)).trans (Tch.set b5 rfl (by rw [hpv]; rfl) 1 v');have hl : (l ++ [m]).length = l.length + 1 := by simp
 refine ⟨h.rd.bel1 (hb6.mono (by omega)), rg_bel1 h.rg (hb6.mono (by omega)), h.out.below hb6 h2, b5.s21 v', ?_, h.lt⟩;rw [hl];exact ⟨hl, xs ++ cs, hown5.far (own_ne hown5 b5 (by decide)) v', (hrow.map_ fun _ _ x => x.tch ht).snoc (hm.tch ht) hcs⟩
end
theorem rd_body (B : Nat) (w : World) (gr : Nat) (c1 c2 c3 c4 : Value) (s : PS) (h : RdP B w gr c1 c2 c3 c4 s) : Calls Tryz.prog 78 #[.pointer (some ⟨gr, 0, none⟩)] w (RetBd B w gr c1 c2 c3 c4 s.body.1 s.body.2) := by
 obtain ⟨i0, hi0, hz0, hz1, hz2⟩ := info_parts info_mk;have HI := Lib.hid (And.intro hi0 (And.intro hz0 (And.intro hz1 hz2)));clear hi0 hz0 hz1 hz2;unfold PS.body;obtain ⟨R, hR⟩ : ∃ R, PS.marks (s.toks.length + 1) (s.word.2.expect 2 [123]) [] = R := ⟨_, rfl⟩;simp only [hR];have HR := Lib.hid hR;have HP := Lib.hid h;have hlt := h.lt;have HN := Lib.hid (word_nm h.txt);clear h hR;go_enter Tryz.func78, Tryz.ntmps78;go_wp2_with fail;(with_reducible refine (rd_word B _ gr c1 c2 c3 c4 s (HP.out.alloc _)).mono ?_); rintro e w1 ⟨rfl, h1, hg1⟩;have z1 : Blk w1 w.heap.size 45 #[strV [], .slice none 0 0] := rg_blk hg1 (Blk.new _ _ _) (by omega);have G1 : w.grownBy w1 (some gr) := rg_trans (rg_alloc (rg_refl gr w) _) hg1;have hlz := z1.lt;have hl1 := h1.lt;have H1 := Lib.hid h1;clear hg1 h1;go_wp2_with fail;(with_reducible refine (rd_sign B _ gr c1 c2 c3 c4 s.word.2 (H1.out.alloc _) [123]).mono ?_); rintro e w2 ⟨rfl, h2, hg2⟩;have z2 : Blk w2 w.heap.size 45 #[strV [], .slice none 0 0] := rg_blk hg2 (z1.alloc _) (by omega);have b2 : Blk w2 w1.heap.size 45 #[strV s.word.1, .slice none 0 0] := rg_blk hg2 (Blk.new _ _ _) (by omega);have G2 : w.grownBy w2 (some gr) := rg_trans (rg_alloc G1 _) hg2;clear z1 G1 H1 hg2;generalize w1.heap.size = gb at hlz hl1 b2 ⊢;have HB2 := Lib.hid b2;have HZ2 := Lib.hid z2;have H2 := Lib.hid h2;clear b2 z2 h2;go_wp2_with fail;go_loopw [] (fun wr => ∃ f s' l pv, BdR B w gr gb c1 c2 c3 c4 s.word.1 wr s' l pv ∧ (s'.x = 0 → s'.toks.length < f ∧ l.length + s'.toks.length ≤ 65536) ∧ Hid (PS.marks f s' l = R)) (fun wr => mOf gr wr)
 case atStart =>
  have hst := (word_stp s).trans (expect_stp s.word.2 2 [123]);have h6 := HP.out.len;exact ⟨_, _, [], _, ⟨H2.out, G2, HZ2.out, HB2.out, RowT.nil, hlt, hlz⟩, fun _ => ⟨by have := hst.1; omega, by have := hst.1; simp; omega⟩, HR⟩
 case round =>
  clear HR H2 HZ2 HB2 G2;obtain ⟨f, s', l, pv, hbr, hfl, HR⟩ := hrel;obtain ⟨A, n, c, hb, ht⟩ := hbr.rd.blk;obtain ⟨a0, _, _, _, _, a5⟩ := hb.c6;obtain ⟨Ap, cp, rfl, hcp⟩ := hbr.row.form;have HBR := Lib.hid hbr;clear hb hbr;by_cases hx : s'.x = 0
  ·rw [hx, errV_0] at a5
   obtain ⟨hf1, hf2⟩ := hfl hx;have hff : 0 < f := by omega
   rcases ht.first with ⟨hn0, hs⟩ | ⟨hn0, g, o, k, e, d0, hs⟩
   rotate_left
   ·subst e
    rw [show decide (k = 2) = _ from rfl] at hs;have hi0 : (0 : Int) < (n : Int) := by omega
    have hi1 : (0 < n) = True := eq_true hn0;clear ht;by_cases hk : k = 2
    ·have hk1 : ((k : Int) == 2) = true := by simp [hk]
     have hRl := marks_end (l := l) hff hx (by rw [hs]; simp [hk]);rw [HR.out] at hRl;subst hRl;clear hs hfl;go_wp2_with fail;(with_reducible refine (rd_sign B _ gr c1 c2 c3 c4 s' HBR.out.rd [125]).mono ?_); rintro e w3 ⟨rfl, h3, hg3⟩;have HB3 := Lib.hid (HBR.out.call h3 hg3);obtain ⟨cz0, cz1⟩ := HB3.out.out.c2;obtain ⟨fz0, fz1⟩ := HB3.out.out.f2;obtain ⟨cb0, cb1⟩ := HB3.out.b.c2;have hne : ¬ gb = w.heap.size := by omega
     clear h3 hg3;go_wp2_with fail;refine bodyPost_ret (v := .agg #[strV s.word.1, .slice Ap l.length cp]) (by simp [results, Tryz.results78, go_sem, *] <;> trivial) rfl ?_;exact ⟨_, _, _, rfl, (HB3.out.fin _ _).2.2, HN.out, (HB3.out.fin _ _).1, (HB3.out.fin _ _).2.1⟩
    have hk1 : ((k : Int) == 2) = false := beq_eq_false_iff_ne.2 (by omega);have hs2 : s'.signHead = false := by rw [hs]; simp [hk]
    clear hs;have HS2 := Lib.hid hs2;clear hs2;go_wp2_with fail;(with_reducible refine (rd_word B _ gr c1 c2 c3 c4 s' HBR.out.rd).mono ?_); rintro e w3 ⟨rfl, h3, hg3⟩;have hnm := Lib.hid (word_nm HBR.out.rd.txt);have hl3 := h3.lt;have hw3 := hg3.size;have H3 := Lib.hid h3;clear h3 a0 a5;go_wp2_with fail;(with_reducible refine (rd_number B _ gr c1 c2 c3 c4 s'.word.2 (H3.out.alloc _)).mono ?_); rintro e w4 ⟨b4, A4, n4, d4, D4, m4, e4, rfl, q4, h4, hg4⟩;have p4 : Blk w4 w3.heap.size 90 #[strV s'.word.1, .bool false, .slice none 0 0, .slice none 0 0, .bool false, .slice none 0 0, .slice none 0 0] := rg_blk hg4 (Blk.new _ _ _) (by omega);have g4 : wr.grownBy w4 (some gr) := rg_trans (rg_alloc hg3 _) hg4;have hlp4 := p4.lt;obtain ⟨_, fp1, fp2, fp3, _⟩ := p4.f7;obtain ⟨_, cq1, cq2, cq3, _⟩ := p4.c7;have P4 := Lib.hid p4;have H4 := Lib.hid h4;have Q4 := Lib.hid q4;clear p4 h4 q4 hg4 hg3 H3;go_wp2_with fail;(with_reducible refine (rd_number B _ gr c1 c2 c3 c4 s'.word.2.number.2 (H4.out.bel1 (bel_sets w4 hl3 1 2 3 (.bool b4) (.slice A4 n4 d4) (.slice D4 m4 e4)))).mono ?_); rintro e w5 ⟨b5, A5, n5, d5, D5, m5, e5, rfl, q5, h5, hg5⟩;have p5 := rg_blk hg5 (P4.out.x7 (.bool b4) (.slice A4 n4 d4) (.slice D4 m4 e4)) (by omega);have g5 : wr.grownBy w5 (some gr) := rg_trans (rg_bel1 g4 (bel_sets w4 hw3 1 2 3 (.bool b4) (.slice A4 n4 d4) (.slice D4 m4 e4))) hg5;have q45 := (Q4.out.tch (tch_sets P4.out rfl 1 2 3 (.bool b4) (.slice A4 n4 d4) (.slice D4 m4 e4))).tch ((H4.out.bel1 (bel_sets w4 hl3 1 2 3 (.bool b4) (.slice A4 n4 d4) (.slice D4 m4 e4))).tch hg5 (T := TA) rfl);have hlp5 := p5.lt;obtain ⟨_, _, _, _, fr4, fr5, fr6⟩ := p5.f7;obtain ⟨_, _, _, _, cr4, cr5, cr6⟩ := p5.c7;have P5 := Lib.hid p5;have H5 := Lib.hid h5;have Q45 := Lib.hid q45;have Q5 := Lib.hid q5;clear p5 h5 q5 q45 hg5 g4 P4 H4 Q4 fp1 fp2 fp3 cq1 cq2 cq3;go_wp2_with fail;(with_reducible refine (rd_sign B _ gr c1 c2 c3 c4 s'.word.2.number.2.number.2 (H5.out.bel1 (bel_sets w5 hl3 4 5 6 (.bool b5) (.slice A5 n5 d5) (.slice D5 m5 e5))) [59]).mono ?_); rintro e w6 ⟨rfl, h6, hg6⟩;have p6 := rg_blk hg6 (P5.out.y7 (.bool b5) (.slice A5 n5 d5) (.slice D5 m5 e5)) (by omega);have g6 : wr.grownBy w6 (some gr) := rg_trans (rg_bel1 g5 (bel_sets w5 hw3 4 5 6 (.bool b5) (.slice A5 n5 d5) (.slice D5 m5 e5))) hg6;have t6 := (tch_sets P5.out rfl 4 5 6 (.bool b5) (.slice A5 n5 d5) (.slice D5 m5 e5)).trans ((H5.out.bel1 (bel_sets w5 hl3 4 5 6 (.bool b5) (.slice A5 n5 d5) (.slice D5 m5 e5))).tch hg6 (T := TA) rfl);have HM := Lib.hid (show MkC 130 w6 [strV s'.word.1, .bool b4, .slice A4 n4 d4, .slice D4 m4 e4, .bool b5, .slice A5 n5 d5, .slice D5 m5 e5] s'.mark.1 from ⟨b4, A4, n4, d4, D4, m4, e4, b5, A5, n5, d5, D5, m5, e5, rfl, Q45.out.tch t6, Q5.out.tch t6, hnm.out⟩);have HB6 := Lib.hid (show BdR B w gr gb c1 c2 c3 c4 s.word.1 w6 s'.mark.2 l (.slice Ap l.length cp) from HBR.out.call h6 g6);obtain ⟨_, xs, hown, hrow⟩ := HB6.out.row;have HO := Lib.hid hown;have HW := Lib.hid hrow;obtain ⟨cb0, cb1⟩ := HB6.out.b.c2;obtain ⟨cp0, cp1, cp2, cp3, cp4, cp5, cp6⟩ := p6.c7;have hlb := HB6.out.b.lt;have hlp6 := p6.lt;clear h6 hg6 hown hrow p6 t6 g5 g6 P5 H5 Q45 Q5 fr4 fr5 fr6 cr4 cr5 cr6;go_wp2_with (at_builtin; refine wpList_append_J _ rfl noW _ _ _ rfl gb 90 i0 (.agg #[.string ⟨#[]⟩, .bool false, .slice none 0 0, .slice none 0 0, .bool false, .slice none 0 0, .slice none 0 0]) 7 128 Tryz.underlying43 HI.out.1 HI.out.2.1 HI.out.2.2.1 HI.out.2.2.2 rfl (by omega) rfl _ l.length xs rfl (HO.out.belw ((Below.refl _ _).alloc (Nat.le_refl _) _)) ⟨w6.heap.size, 0, none⟩ 1 1 [_, _, _, _, _, _, _] rfl rfl (World.news_of_block (heap_alloc_new w6 _)) (by simp [Value.oneCell']) rfl (by omega) (by unfold maxLen; omega) (by omega) (by simp; omega) ?_; intro gx cap w7 hown7 hgrow hat; have fb7 := (HB6.out.b5 HO.out _ hgrow).frozen 1; obtain ⟨ce0, ce1⟩ := (HB6.out.b5 HO.out _ hgrow).c2);have hst := mark_stp s';have hR2 := marks_step (l := l) hff hx HS2.out;rw [HR.out] at hR2;go_roundw
    case rel =>
     refine ⟨f - 1, s'.mark.2, l ++ [s'.mark.1], _, HB6.out.push HO.out HW.out HM.out rfl hown7 hgrow, fun hz => ?_, Lib.hid hR2.symm⟩;have h9 := (hst.2.2.1 hz).2;rw [List.length_append, List.length_singleton];omega
    case measure =>
     rw [(HB6.out.push HO.out HW.out HM.out rfl hown7 hgrow).rd.meas, HBR.out.rd.meas, if_pos hx];have h8 := hst.1;by_cases hz : s'.mark.2.x = 0
     ·have h9 := (hst.2.2.1 hz).2
      rw [if_pos hz]; omega
     rw [if_neg hz]; omega
   subst hn0;have hs2 : s'.signHead = false := hs;clear hs ht;have HS2 := Lib.hid hs2;clear hs2;go_wp2_with fail;(with_reducible refine (rd_word B _ gr c1 c2 c3 c4 s' HBR.out.rd).mono ?_); rintro e w3 ⟨rfl, h3, hg3⟩;have hnm := Lib.hid (word_nm HBR.out.rd.txt);have hl3 := h3.lt;have hw3 := hg3.size;have H3 := Lib.hid h3;clear h3 a0 a5;go_wp2_with fail;(with_reducible refine (rd_number B _ gr c1 c2 c3 c4 s'.word.2 (H3.out.alloc _)).mono ?_); rintro e w4 ⟨b4, A4, n4, d4, D4, m4, e4, rfl, q4, h4, hg4⟩;have p4 : Blk w4 w3.heap.size 90 #[strV s'.word.1, .bool false, .slice none 0 0, .slice none 0 0, .bool false, .slice none 0 0, .slice none 0 0] := rg_blk hg4 (Blk.new _ _ _) (by omega);have g4 : wr.grownBy w4 (some gr) := rg_trans (rg_alloc hg3 _) hg4;have hlp4 := p4.lt;obtain ⟨_, fp1, fp2, fp3, _⟩ := p4.f7;obtain ⟨_, cq1, cq2, cq3, _⟩ := p4.c7;have P4 := Lib.hid p4;have H4 := Lib.hid h4;have Q4 := Lib.hid q4;clear p4 h4 q4 hg4 hg3 H3;go_wp2_with fail;(with_reducible refine (rd_number B _ gr c1 c2 c3 c4 s'.word.2.number.2 (H4.out.bel1 (bel_sets w4 hl3 1 2 3 (.bool b4) (.slice A4 n4 d4) (.slice D4 m4 e4)))).mono ?_); rintro e w5 ⟨b5, A5, n5, d5, D5, m5, e5, rfl, q5, h5, hg5⟩;have p5 := rg_blk hg5 (P4.out.x7 (.bool b4) (.slice A4 n4 d4) (.slice D4 m4 e4)) (by omega);have g5 : wr.grownBy w5 (some gr) := rg_trans (rg_bel1 g4 (bel_sets w4 hw3 1 2 3 (.bool b4) (.slice A4 n4 d4) (.slice D4 m4 e4))) hg5;have q45 := (Q4.out.tch (tch_sets P4.out rfl 1 2 3 (.bool b4) (.slice A4 n4 d4) (.slice D4 m4 e4))).tch ((H4.out.bel1 (bel_sets w4 hl3 1 2 3 (.bool b4) (.slice A4 n4 d4) (.slice D4 m4 e4))).tch hg5 (T := TA) rfl);have hlp5 := p5.lt;obtain ⟨_, _, _, _, fr4, fr5, fr6⟩ := p5.f7;obtain ⟨_, _, _, _, cr4, cr5, cr6⟩ := p5.c7;have P5 := Lib.hid p5;have H5 := Lib.hid h5;have Q45 := Lib.hid q45;have Q5 := Lib.hid q5;clear p5 h5 q5 q45 hg5 g4 P4 H4 Q4 fp1 fp2 fp3 cq1 cq2 cq3;go_wp2_with fail;(with_reducible refine (rd_sign B _ gr c1 c2 c3 c4 s'.word.2.number.2.number.2 (H5.out.bel1 (bel_sets w5 hl3 4 5 6 (.bool b5) (.slice A5 n5 d5) (.slice D5 m5 e5))) [59]).mono ?_); rintro e w6 ⟨rfl, h6, hg6⟩;have p6 := rg_blk hg6 (P5.out.y7 (.bool b5) (.slice A5 n5 d5) (.slice D5 m5 e5)) (by omega);have g6 : wr.grownBy w6 (some gr) := rg_trans (rg_bel1 g5 (bel_sets w5 hw3 4 5 6 (.bool b5) (.slice A5 n5 d5) (.slice D5 m5 e5))) hg6;have t6 := (tch_sets P5.out rfl 4 5 6 (.bool b5) (.slice A5 n5 d5) (.slice D5 m5 e5)).trans ((H5.out.bel1 (bel_sets w5 hl3 4 5 6 (.bool b5) (.slice A5 n5 d5) (.slice D5 m5 e5))).tch hg6 (T := TA) rfl);have HM := Lib.hid (show MkC 130 w6 [strV s'.word.1, .bool b4, .slice A4 n4 d4, .slice D4 m4 e4, .bool b5, .slice A5 n5 d5, .slice D5 m5 e5] s'.mark.1 from ⟨b4, A4, n4, d4, D4, m4, e4, b5, A5, n5, d5, D5, m5, e5, rfl, Q45.out.tch t6, Q5.out.tch t6, hnm.out⟩);have HB6 := Lib.hid (show BdR B w gr gb c1 c2 c3 c4 s.word.1 w6 s'.mark.2 l (.slice Ap l.length cp) from HBR.out.call h6 g6);obtain ⟨_, xs, hown, hrow⟩ := HB6.out.row;have HO := Lib.hid hown;have HW := Lib.hid hrow;obtain ⟨cb0, cb1⟩ := HB6.out.b.c2;obtain ⟨cp0, cp1, cp2, cp3, cp4, cp5, cp6⟩ := p6.c7;have hlb := HB6.out.b.lt;have hlp6 := p6.lt;clear h6 hg6 hown hrow p6 t6 g5 g6 P5 H5 Q45 Q5 fr4 fr5 fr6 cr4 cr5 cr6;go_wp2_with (at_builtin; refine wpList_append_J _ rfl noW _ _ _ rfl gb 90 i0 (.agg #[.string ⟨#[]⟩, .bool false, .slice none 0 0, .slice none 0 0, .bool false, .slice none 0 0, .slice none 0 0]) 7 128 Tryz.underlying43 HI.out.1 HI.out.2.1 HI.out.2.2.1 HI.out.2.2.2 rfl (by omega) rfl _ l.length xs rfl (HO.out.belw ((Below.refl _ _).alloc (Nat.le_refl _) _)) ⟨w6.heap.size, 0, none⟩ 1 1 [_, _, _, _, _, _, _] rfl rfl (World.news_of_block (heap_alloc_new w6 _)) (by simp [Value.oneCell']) rfl (by omega) (by unfold maxLen; omega) (by omega) (by simp; omega) ?_; intro gx cap w7 hown7 hgrow hat; have fb7 := (HB6.out.b5 HO.out _ hgrow).frozen 1; obtain ⟨ce0, ce1⟩ := (HB6.out.b5 HO.out _ hgrow).c2);have hst := mark_stp s';have hR2 := marks_step (l := l) hff hx HS2.out;rw [HR.out] at hR2;go_roundw
   case rel =>
    refine ⟨f - 1, s'.mark.2, l ++ [s'.mark.1], _, HB6.out.push HO.out HW.out HM.out rfl hown7 hgrow, fun hz => ?_, Lib.hid hR2.symm⟩;have h9 := (hst.2.2.1 hz).2;rw [List.length_append, List.length_singleton];omega
   case measure =>
    rw [(HB6.out.push HO.out HW.out HM.out rfl hown7 hgrow).rd.meas, HBR.out.rd.meas, if_pos hx];have h8 := hst.1;by_cases hz : s'.mark.2.x = 0
    ·have h9 := (hst.2.2.1 hz).2
     rw [if_pos hz]; omega
    rw [if_neg hz]; omega
  rw [eVp hx] at a5;have hz := HBR.out.out;have hbb := HBR.out.b;obtain ⟨cz0, cz1⟩ := hz.c2;obtain ⟨fz0, fz1⟩ := hz.f2;obtain ⟨cb0, cb1⟩ := hbb.c2;have hne : ¬ gb = w.heap.size := by omega
  have hRl := marks_x (f := f) (l := l) hx;rw [HR.out] at hRl;subst hRl;clear hz hbb hfl ht;go_wp2_with fail;refine bodyPost_ret (v := .agg #[strV s.word.1, .slice Ap l.length cp]) (by simp [results, Tryz.results78, go_sem, *] <;> trivial) rfl ?_;exact ⟨_, _, _, rfl, (HBR.out.fin _ _).2.2, HN.out, (HBR.out.fin _ _).1, (HBR.out.fin _ _).2.1⟩
theorem idx_hit {α : Type} {f : α → List UInt8} {l : List α} {nm : List UInt8} {i : Nat} {b : α} (h : ∀ a ∈ l.take i, f a ≠ nm) (hb : l[i]? = some b) (e : f b = nm) : l.findIdx? (fun x => f x == nm) = some i := by
 rw [List.findIdx?_eq_some_iff_getElem];obtain ⟨hi, hb⟩ := List.getElem?_eq_some_iff.1 hb;refine ⟨hi, by rw [hb]; simp [e], fun j hj => ?_⟩
 have hm : l[j]'(by omega) ∈ l.take i := by
  rw [List.mem_take_iff_getElem];exact ⟨j, by omega, rfl⟩
 simpa using h _ hm
theorem idx_none {α : Type} {f : α → List UInt8} {l : List α} {nm : List UInt8} (h : ∀ a ∈ l, f a ≠ nm) : l.findIdx? (fun x => f x == nm) = none := by
 rw [List.findIdx?_eq_none_iff];intro x hx;simpa using h x hx
theorem take_step {α : Type} {p : α → Prop} {l : List α} {i : Nat} {b : α} (h : ∀ a ∈ l.take i, p a) (hb : l[i]? = some b) (hp : p b) : ∀ a ∈ l.take (i + 1), p a := by
 intro a ha;rw [List.take_add_one, hb] at ha;simp at ha;rcases ha with ha | rfl
 ·exact h a ha
 exact hp
section
variable {w w' : World} {gr base n c : Nat} {A : Option Addr} {cs : Array Value}
theorem RowT.rgt {α : Type} {T0 : TypeId} {Pc : World → List Value → α → Prop} {sz : Nat} {v : Value} {l : List α} (h : RowT T0 Pc sz w base v n l) (hb : Blk w gr 124 cs) (hne : T0 ≠ 124) (k : w.grownBy w' (some gr)) (hP : ∀ cs a, Pc w cs a → Pc w' cs a) : RowT T0 Pc sz w' base v n l :=
 h.same (fun g cur _ hc => rg_blks k hc (fun e => by
  subst e;unfold Blk at hb;rw [hb] at hc;injection hc with hc;injection hc with _ hc
  exact hne hc.symm)) hP
theorem RowT.bds {k : Nat} {l : List BodyL} (h : RowT 45 (BdC k) 2 w base (.slice A n c) n l) : SlS (BdAt k) 2 w A n c l := (h.slT (P := BdAt k) fun _ _ _ _ h1 h2 => h1.at_ h2).sl fun _ _ _ p => p
theorem RowT.jts {l : List JointL} (h : RowT 116 JtC 7 w base (.slice A n c) n l) : SlS JtAt 7 w A n c l := (h.slT (P := JtAt) fun _ _ _ _ h1 h2 => h1.at_ h2).sl fun _ _ _ p => p
theorem RowT.drs {l : List DriverL} (h : RowT 118 DrC 2 w base (.slice A n c) n l) : SlS DrAt 2 w A n c l := (h.slT (P := DrAt) fun _ _ _ _ h1 h2 => h1.at_ h2).sl fun _ _ _ p => p
end
theorem RdP.bodies {B : Nat} {w w' : World} {gr n c : Nat} {A : Option Addr} {c1 c2 c3 c4 : Value} {s : PS} {l : List BodyL} (h : RdP B w gr c1 c2 c3 c4 s) (hr : RowT 45 (BdC 130) 2 w B (.slice A n c) n l) (k : w.grownBy w' (some gr)) : RowT 45 (BdC 130) 2 w' B (.slice A n c) n l := by
 obtain ⟨_, _, _, hb, _⟩ := h.blk;exact hr.rgt hb (by decide) k fun _ _ x => x.tch (T := fun t => t == 124) (h.tch k rfl) (by decide)
theorem rd_named (B : Nat) (w : World) (gr : Nat) (c1 c3 c4 : Value) (A : Option Addr) (n c : Nat) (s : PS) (h : RdP B w gr c1 (.slice A n c) c3 c4 s) (hr : RowT 45 (BdC 130) 2 w B (.slice A n c) n s.L.bodies) (hn : n ≤ 100000) (only : Int) : Calls Tryz.prog 129 #[.pointer (some ⟨gr, 0, none⟩), .int .i64 only] w (RetR B w gr c1 (.slice A n c) c3 c4 (.int .i64 (s.named only).1) (s.named only).2) := by
 have HP := Lib.hid h;have HR := Lib.hid hr;obtain ⟨W, hW⟩ : ∃ W, s.named only = W := ⟨_, rfl⟩;rw [hW];have HW := Lib.hid hW;clear h hr hW;go_enter Tryz.func129, Tryz.ntmps129;go_wp2_with fail;(with_reducible refine (rd_word B _ gr c1 (.slice A n c) c3 c4 s HP.out).mono ?_); rintro e w1 ⟨rfl, h1, hg1⟩;have HB := Lib.hid (HP.out.bodies HR.out hg1);have hLs := (word_stp s).2.2.2;have hW := HW.out;unfold PS.named at hW;simp only at hW;rw [hLs] at hW;generalize s.word.2 = s' at h1 hW;generalize s.word.1 = nm at hW ⊢;have H1 := Lib.hid h1;obtain ⟨D, m, d, hb, _⟩ := h1.blk;obtain ⟨_, _, a2, _, _, a5⟩ := hb.c6;have hgl := hb.lt;clear hb h1 HW HP HR hLs;by_cases hx : s'.x = 0
 ·rw [if_neg (by simp [hx])] at hW
  rw [hx, errV_0] at a5;have HX := Lib.hid hx;have HW := Lib.hid hW;clear hx hW;go_wp2_with fail;clear a2 a5;go_loopw [21] (fun iv wr => ∃ i : Nat, iv = .int .i64 (i : Nat) ∧ i ≤ n ∧ Hid (∀ a ∈ s.L.bodies.take i, a.name ≠ nm) ∧ Below w1.heap.size w1 wr) (fun iv _ => n - (intOf iv).toNat)
  case atStart => exact ⟨0, rfl, Nat.zero_le _, Lib.hid (by simp), brefl w1⟩
  case round =>
   obtain ⟨i, rfl, hi, HT, hb⟩ := hrel;rename World => wr;rcases Nat.lt_or_ge i n with hlt | hge
   ·have hi1 : ((i : Int) < (n : Int)) = True := by simp; omega
    obtain ⟨g, o, b, e, hg, _, hbi, hB⟩ := (HB.out.bds.bd hb).at_ hlt;subst e;obtain ⟨A', n', c', d0, d1, hM, hnm⟩ := hB;clear hM hnm;have htl := toList_v b.name;have htn := toList_v nm;have HBI := Lib.hid hbi;clear hbi;by_cases heq : b.name = nm
    ·have hf : findB s.L.bodies nm = some i := idx_hit (f := BodyL.name) HT.out HBI.out heq
     have hW := HW.out;rw [hf] at hW;simp only at hW;rw [heq] at d0 htl;have hee : (nm == nm) = true := by simp
     have r1 := H1.out.belw hb;have g1 := rg_below hg1 hb;have R1 := Lib.hid r1;clear HBI heq hf r1;by_cases ho : 0 ≤ only
     ·have ho1 : (0 ≤ only) = True := eq_true ho
      by_cases hio : (i : Int) = only
      ·rw [if_neg (by simp [hio])] at hW
       subst hW;have hio1 : ((i : Int) == only) = true := by simp [hio]
       clear hio;go_wp2_with fail;go_ret;exact ⟨rfl, R1.out.alloc _, rg_alloc g1 _⟩
      rw [if_pos ⟨ho, hio⟩, show s'.fail 7 = { s' with x := 7 } from if_pos HX.out] at hW;subst hW;have hio1 : ((i : Int) == only) = false := beq_eq_false_iff_ne.2 hio;clear hio;obtain ⟨D2, m2, d2, hbr, htr⟩ := R1.out.blk;have HBr := Lib.hid (hbr.alloc (.cells #[strV nm, .slice A' n' c'] 45));have HTr := Lib.hid htr;clear hbr htr;go_wp2_with fail;(with_reducible refine (rd_fail _ gr (.slice D2 m2 d2) c1 (.slice (some ⟨g, o, none⟩) n c) c3 c4 s'.x 7 HBr.out (by decide)).mono ?_); rintro e w2 ⟨rfl, hb2, hg2⟩;have g2 := rg_trans (rg_alloc (rg_refl gr wr) _) hg2;rw [if_pos HX.out] at hb2;have R2 : RdP B w2 gr c1 (.slice (some ⟨g, o, none⟩) n c) c3 c4 { s' with x := 7 } := ⟨⟨D2, m2, d2, hb2, HTr.out.rg R1.out.hB g2⟩, R1.out.mx.rg R1.out.hB g2, R1.out.hB, R1.out.len, R1.out.txt, R1.out.hw⟩;clear hb2;go_wp2_with fail;go_ret;exact ⟨rfl, R2, rg_trans g1 g2⟩
     have ho1 : (0 ≤ only) = False := eq_false ho;rw [if_neg (by omega)] at hW;subst hW;go_wp2_with fail;go_ret;exact ⟨rfl, R1.out.alloc _, rg_alloc g1 _⟩
    have hee : (b.name == nm) = false := beq_eq_false_iff_ne.2 heq;have HT2 := Lib.hid (take_step (p := fun a : BodyL => a.name ≠ nm) HT.out HBI.out heq);clear heq HT HBI;go_wp2_with fail;go_roundw
    case rel => exact ⟨i + 1, by go_num, by omega, HT2, hb.alloc hb.size _⟩
    case measure => simp [intOf]; omega
   have hi1 : ((i : Int) < (n : Int)) = False := by simp; omega
   obtain rfl : i = n := by omega
   have hl : s.L.bodies.length = i := HB.out.1;have hf : findB s.L.bodies nm = none := idx_none (f := BodyL.name) fun a ha => HT.out a (by rw [List.take_of_length_le (by omega)]; exact ha)
   have hW := HW.out;rw [hf] at hW;simp only at hW;have e2 : s'.fail 5 = { s' with x := 5 } := if_pos HX.out;rw [e2] at hW;subst hW;have r1 := H1.out.belw hb;have g1 := rg_below hg1 hb;have R1 := Lib.hid r1;obtain ⟨D2, m2, d2, hbr, htr⟩ := r1.blk;have HBr := Lib.hid hbr;have HTr := Lib.hid htr;clear hbr htr r1 hf hl HT;go_wp2_with fail;(with_reducible refine (rd_fail _ gr (.slice D2 m2 d2) c1 (.slice A i c) c3 c4 s'.x 5 HBr.out (by decide)).mono ?_); rintro e w2 ⟨rfl, hb2, g2⟩;rw [if_pos HX.out] at hb2;have R2 : RdP B w2 gr c1 (.slice A i c) c3 c4 { s' with x := 5 } := ⟨⟨D2, m2, d2, hb2, HTr.out.rg R1.out.hB g2⟩, R1.out.mx.rg R1.out.hB g2, R1.out.hB, R1.out.len, R1.out.txt, R1.out.hw⟩;clear hb2;go_wp2_with fail;go_ret;exact ⟨rfl, R2, rg_trans g1 g2⟩
 rw [if_pos (by simpa using hx)] at hW;subst hW;rw [eVp hx] at a5;clear hx;go_wp2_with fail;go_ret;exact ⟨rfl, H1.out, hg1⟩
theorem RdP.body_at {k n c i : Nat} {w : World} {A : Option Addr} {l : List BodyL} (h : SlS (BdAt k) 2 w A n c l) (hi : i < n) : ∃ g o b A' n' c', A = some ⟨g, o, none⟩ ∧ l[i]? = some b ∧ w.cell? ⟨g, o + i * 2 + 1, none⟩ = some (.slice A' n' c') ∧ SlS (MkAt k) 7 w A' n' c' b.pts := by
 obtain ⟨g, o, b, e, hg, _, hbi, A', n', c', d0, d1, hM, _⟩ := h.at_ hi;exact ⟨g, o, b, A', n', c', e, hbi, d1, hM⟩
theorem rd_full (B : Nat) (w : World) (gr : Nat) (c1 c3 c4 : Value) (A : Option Addr) (n c : Nat) (s : PS) (h : RdP B w gr c1 (.slice A n c) c3 c4 s) (hr : RowT 45 (BdC 130) 2 w B (.slice A n c) n s.L.bodies) (hn : n ≤ 100000) (hpt : ∀ b ∈ s.L.bodies, b.pts.length ≤ 100000) (only : Int) : Calls Tryz.prog 128 #[.pointer (some ⟨gr, 0, none⟩), .int .i64 only] w (RetR B w gr c1 (.slice A n c) c3 c4 (.tuple #[.int .i64 (s.full only).1, .int .i64 (s.full only).2.1]) (s.full only).2.2) := by
 have HP := Lib.hid h;have HR := Lib.hid hr;have HPT := Lib.hid hpt;obtain ⟨W, hW⟩ : ∃ W, s.full only = W := ⟨_, rfl⟩;rw [hW];have HW := Lib.hid hW;clear h hr hW hpt;go_enter Tryz.func128, Tryz.ntmps128;go_wp2_with fail;(with_reducible refine (rd_named B _ gr c1 c3 c4 A n c s HP.out HR.out hn only).mono ?_); rintro e w1 ⟨rfl, h1, hg1⟩;have H1 := Lib.hid h1;clear h1;go_wp2_with fail;(with_reducible refine (rd_sign B _ gr c1 (.slice A n c) c3 c4 (s.named only).2 H1.out [46]).mono ?_); rintro e w2 ⟨rfl, h2, hg2⟩;have H2 := Lib.hid h2;clear h2;go_wp2_with fail;(with_reducible refine (rd_word B _ gr c1 (.slice A n c) c3 c4 ((s.named only).2.expect 2 [46]) H2.out).mono ?_); rintro e w3 ⟨rfl, h3, hg3⟩;have G3 := rg_trans (rg_trans hg1 hg2) hg3;have HB := Lib.hid (HP.out.bodies HR.out G3);have hst := (expect_stp (s.named only).2 2 [46]).trans (word_stp ((s.named only).2.expect 2 [46]));have hLs := ((named_stp s only).trans hst).2.2.2;have hin := named_in s only;have hW := HW.out;unfold PS.full at hW;simp only at hW;rw [hLs] at hW;have hxs : ((s.named only).2.expect 2 [46]).word.2.x = 0 → (s.named only).2.x = 0 := fun hx => (hst.2.2.1 hx).1
 clear hst hLs HW H1 H2 hg1 hg2 hg3 HP HR;generalize ((s.named only).2.expect 2 [46]).word.2 = s' at h3 hW hxs;generalize ((s.named only).2.expect 2 [46]).word.1 = nm at hW ⊢;generalize (s.named only).1 = b at hW hin ⊢;have H3 := Lib.hid h3;obtain ⟨D, m, d, hb, _⟩ := h3.blk;obtain ⟨_, _, a2, _, _, a5⟩ := hb.c6;have hgl := hb.lt;clear hb h3;by_cases hx : s'.x = 0
 ·rw [if_neg (by simp [hx])] at hW
  rw [hx, errV_0] at a5;obtain ⟨ib, eb, hib⟩ := hin (hxs hx);subst eb;have HX := Lib.hid hx;have hl : s.L.bodies.length = n := HB.out.1;obtain ⟨g, o, bd, A', n', c', e, hbi, d1, hM⟩ := RdP.body_at HB.out.bds (show ib < n by omega);subst e
  have hp : ptsAt s.L (ib : Int) = bd.pts := by
   unfold ptsAt;rw [Int.toNat_natCast, hbi]
  rw [hp] at hW;have hi1 : ((ib : Int) < (n : Int)) = True := by simp; omega
  have hi2 : (0 : Int) ≤ (ib : Int) := by omega
  have hn' : n' ≤ 100000 := by rw [← hM.1]; exact HPT.out bd (List.mem_of_getElem? hbi)
  have HW := Lib.hid hW;have HM := Lib.hid hM;clear hx hW hp hbi hM hxs hin hl;go_wp2_with fail;clear a2 a5 d1;go_loopw [32] (fun iv wr => ∃ i : Nat, iv = .int .i64 (i : Nat) ∧ i ≤ n' ∧ Hid (∀ a ∈ bd.pts.take i, a.name ≠ nm) ∧ Below w3.heap.size w3 wr) (fun iv _ => n' - (intOf iv).toNat)
  case atStart => exact ⟨0, rfl, Nat.zero_le _, Lib.hid (by simp), brefl w3⟩
  case round =>
   obtain ⟨i, rfl, hi, HT, hb⟩ := hrel;rename World => wr;rcases Nat.lt_or_ge i n' with hlt | hge
   ·have hj1 : ((i : Int) < (n' : Int)) = True := by simp; omega
    obtain ⟨g2, o2, p, e, hg, _, hpi, hP⟩ := (HM.out.mk_ hb).at_ hlt;subst e;obtain ⟨d0, ⟨bx, Ax, nx, cx, Dx, mx, ex, d1, d2, d3, _⟩, ⟨by_, Ay, ny, cy, Dy, my, ey, d4, d5, d6, _⟩, _⟩ := hP;have htl := toList_v p.name;have htn := toList_v nm;have HPI := Lib.hid hpi;clear hpi;by_cases heq : p.name = nm
    ·have hf : findM bd.pts nm = some i := idx_hit (f := MarkL.name) HT.out HPI.out heq
     have hW := HW.out;rw [hf] at hW;simp only at hW;subst hW;rw [heq] at d0 htl;have hee : (nm == nm) = true := by simp
     have g1 := rg_below G3 hb;have R1 := Lib.hid (H3.out.belw hb);clear HPI heq hf;go_wp2_with fail;refine bodyPost_ret (v := .tuple #[.int .i64 (ib : Nat), .int .i64 (i : Nat)]) (by simp [results, Tryz.results128, go_sem, *] <;> trivial) rfl ?_;exact ⟨rfl, R1.out.alloc _, rg_alloc g1 _⟩
    have hee : (p.name == nm) = false := beq_eq_false_iff_ne.2 heq;have HT2 := Lib.hid (take_step (p := fun a : MarkL => a.name ≠ nm) HT.out HPI.out heq);clear heq HT HPI;go_wp2_with fail;go_roundw
    case rel => exact ⟨i + 1, by go_num, by omega, HT2, hb.alloc hb.size _⟩
    case measure => simp [intOf]; omega
   have hj1 : ((i : Int) < (n' : Int)) = False := by simp; omega
   obtain rfl : i = n' := by omega
   have hl : bd.pts.length = i := HM.out.1;have hf : findM bd.pts nm = none := idx_none (f := MarkL.name) fun a ha => HT.out a (by rw [List.take_of_length_le (by omega)]; exact ha)
   have hW := HW.out;rw [hf] at hW;simp only at hW;have e2 : s'.fail 5 = { s' with x := 5 } := if_pos HX.out;rw [e2] at hW;subst hW;have r1 := H3.out.belw hb;have g1 := rg_below G3 hb;have R1 := Lib.hid r1;obtain ⟨D2, m2, d2, hbr, htr⟩ := r1.blk;have HBr := Lib.hid hbr;have HTr := Lib.hid htr;clear hbr htr r1 hf hl HT;go_wp2_with fail;(with_reducible refine (rd_fail _ gr (.slice D2 m2 d2) c1 (.slice (some ⟨g, o, none⟩) n c) c3 c4 s'.x 5 HBr.out (by decide)).mono ?_); rintro e w5 ⟨rfl, hb2, g2⟩;rw [if_pos HX.out] at hb2;have R2 : RdP B w5 gr c1 (.slice (some ⟨g, o, none⟩) n c) c3 c4 { s' with x := 5 } := ⟨⟨D2, m2, d2, hb2, HTr.out.rg R1.out.hB g2⟩, R1.out.mx.rg R1.out.hB g2, R1.out.hB, R1.out.len, R1.out.txt, R1.out.hw⟩;clear hb2;go_wp2_with fail;refine bodyPost_ret (v := .tuple #[.int .i64 0, .int .i64 0]) (by simp [results, Tryz.results128, go_sem, *] <;> trivial) rfl ?_;exact ⟨rfl, R2, rg_trans g1 g2⟩
 rw [if_pos (by simpa using hx)] at hW;subst hW;rw [eVp hx] at a5;clear hx;go_wp2_with fail;refine bodyPost_ret (v := .tuple #[.int .i64 0, .int .i64 0]) (by simp [results, Tryz.results128, go_sem, *] <;> trivial) rfl ?_;exact ⟨rfl, H3.out, G3⟩
section
variable {P : Program} {ops : Array Oper} {Q : Exit → Act → World → Prop} {fr : (Nat → Value) → Act} {R : Nat → Value → World → Prop} {id : Nat} {w : World} {x0 : Nat → Value}
theorem linG_hcl {L : Array Bool} {i : Nat} {o : Oper} (hlt : i < L.size) (ho : ops[i]? = some o) (hall : ∀ e ∈ o.after, Region.binds .any e = true → L.getD e.on false = true)
 (hcl : ∀ i o, ops[i]? = some o → L.getD i false = true → ∀ e ∈ o.after, Region.binds .any e = true → L.getD e.on false = true) :
 ∀ i' o', ops[i']? = some o' → (L.setIfInBounds i true).getD i' false = true → ∀ e ∈ o'.after, Region.binds .any e = true → (L.setIfInBounds i true).getD e.on false = true := by
 intro i' o' ho' hl e he hbd;rw [getD_set hlt] at hl ⊢;by_cases h : i' = i
 ·subst h; rw [ho] at ho'; injection ho' with ho'; subst ho'
  rw [hall e he hbd]; simp
 have : L.getD i' false = true := by simpa [h] using hl
 rw [hcl i' o' ho' this e he hbd]; simp
def reachB (l : List Oper) (n : Nat) : Bool := (List.range n).all fun j => (List.range (n + 1)).any fun k => decide (j < k) && match l[k]? with | some o => o.after.any (fun e => Region.binds .any e && e.on == j) | none => false
theorem reach_of {l : List Oper} {n j : Nat} (h : reachB l n = true) (hj : j < n) : ∃ k o, j < k ∧ k ≤ n ∧ (l.toArray)[k]? = some o ∧ ∃ e ∈ o.after, Region.binds .any e = true ∧ e.on = j := by
 unfold reachB at h;rw [List.all_eq_true] at h;have h1 := h j (List.mem_range.2 hj);rw [List.any_eq_true] at h1;obtain ⟨k, hk, h2⟩ := h1;rw [Bool.and_eq_true, decide_eq_true_eq] at h2;obtain ⟨hjk, h2⟩ := h2
 cases hl : l[k]? with
 | none => rw [hl] at h2; cases h2
 | some o =>
  rw [hl] at h2;obtain ⟨e, he, h3⟩ := Array.any_eq_true'.1 h2;rw [Bool.and_eq_true] at h3;exact ⟨k, o, hjk, by have := List.mem_range.1 hk; omega, by simpa using hl, e, he, h3.1, by simpa using h3.2⟩
end
def Grw (p : Value → World → Prop) : Prop := ∀ v w w', p v w → Below w.heap.size w w' → p v w'
def AllGrw : List (Value → World → Prop) → Prop
  | [] => True
  | p :: l => Grw p ∧ AllGrw l
theorem AllGrw.get : ∀ (l : List (Value → World → Prop)), AllGrw l → ∀ i v w w', l.getD i (fun _ _ => True) v w → Below w.heap.size w w' → l.getD i (fun _ _ => True) v w' := by
 intro l
 induction l with
 | nil => intro _ i v w w' _ _; simp
 | cons p l ih =>
  intro h i v w w' hp hk
  cases i with
  | zero => exact h.1 v w w' hp hk
  | succ i => exact ih h.2 i v w w' hp hk
def LinT (ops : Array Oper) (fr : (Nat → Value) → Act) (R : Nat → Value → Prop) (T : Nat → (Nat → Value) → World → Prop) (st : Nat → Option Nat) (K : Nat) (L : Array Bool) (a : Act) (w : World) : Prop :=
  ∃ x k, a = fr x ∧ k ≤ K ∧ T k x w ∧ (∀ i j, st i = some j → (L.getD i false = true ↔ j < k)) ∧ (∀ i, L.getD i false = true → R i (x i)) ∧
  (∀ i o, ops[i]? = some o → L.getD i false = true → ∀ e ∈ o.after, Region.binds .any e = true → L.getD e.on false = true)
section
variable (P : Program) (ops : Array Oper) (Q : Exit → Act → World → Prop) (fr : (Nat → Value) → Act) (R : Nat → Value → Prop) (T : Nat → (Nat → Value) → World → Prop)
def PureStep (i : Nat) (o : Oper) : Prop :=
  ∀ k x wq, T k x wq → (∀ e ∈ o.after, Region.binds .any e = true → R e.on (x e.on)) → ∀ K' : Act → World → Prop, Shut (∀ v, R i v → K' ((fr x).put o.dst v) wq) →
      if Region.wanted o (yielded ops (fr x).tmps) = true then Oper.wp P o (fr x) wq K' Q else K' ((fr x).put o.dst undef) wq
def StageStep (k : Nat) (i : Nat) (o : Oper) : Prop :=
  ∀ x wq, T k x wq → (∀ e ∈ o.after, Region.binds .any e = true → R e.on (x e.on)) → ∀ K' : Act → World → Prop, Shut (∀ v w', R i v → T (k + 1) (upd x i v) w' → K' ((fr x).put o.dst v) w') →
      if Region.wanted o (yielded ops (fr x).tmps) = true then Oper.wp P o (fr x) wq K' Q else K' ((fr x).put o.dst undef) wq
end
section
variable {P : Program} {ops : Array Oper} {Q : Exit → Act → World → Prop} {fr : (Nat → Value) → Act} {R : Nat → Value → Prop} {T : Nat → (Nat → Value) → World → Prop} {st : Nat → Option Nat} {K : Nat} {id : Nat} {w : World} {x0 : Nat → Value}
theorem wp_region_stage {n : Nat} (hm : P.follows .mixedOrders = true) (hn : ops.size = n + 1)
 (hput : ∀ i o, ops[i]? = some o → i < n → ∀ x v, (fr x).put o.dst v = fr (upd x i v))
 (hac : ∀ i o, ops[i]? = some o → ∀ e ∈ o.after, Region.binds .any e = true → e.on < i)
 (hreach : ∀ j, j < n → ∃ k o, j < k ∧ k ≤ n ∧ ops[k]? = some o ∧ ∃ e ∈ o.after, Region.binds .any e = true ∧ e.on = j)
 (hst : ∀ i j, st i = some j → i < n ∧ j < K)
 (hinj : ∀ i i' j, st i = some j → st i' = some j → i = i')
 (hall : ∀ j, j < K → ∃ i, st i = some j)
 (hchain : ∀ i o j, ops[i]? = some o → st i = some (j + 1) → ∃ e ∈ o.after, Region.binds .any e = true ∧ st e.on = some j)
 (hT : ∀ k x i v w, st i = none → T k x w → T k (upd x i v) w)
 (h0 : T 0 x0 w.drew)
 (hpure : ∀ i o, ops[i]? = some o → i < n → st i = none → PureStep P ops Q fr R T i o)
 (hstage : ∀ i o k, ops[i]? = some o → st i = some k → StageStep P ops Q fr R T k i o)
 (hlast : ∀ o, ops[n]? = some o → ∀ x wq, T K x wq → (∀ j, j < n → R j (x j)) → ∀ K' : Act → World → Prop, Shut (∀ a' w', Q .normal a' w' → K' a' w') →
  if Region.wanted o (yielded ops (fr x).tmps) = true then Oper.wp P o (fr x) wq K' Q else K' ((fr x).put o.dst undef) wq) :
 (Code.region id ops true).wp P Q (fr x0) w := by
 refine wp_region_any hm (wpAny_inv (fun L a w' => (L.getD n false = false ∧ LinT ops fr R T st K L a w') ∨ ((∀ i, i < ops.size → L.getD i false = true) ∧ Q .normal a w')) ?_ ?_ _ _ _ _ (by simp) ?_ ?_)
 ·rintro L a w1 i hs hi hcase
  obtain ⟨hun, o, ho, hall'⟩ := mem_ready.1 hi
  have hlt : i < L.size := by
   rcases Nat.lt_or_ge i L.size with h | h
   ·exact h
   rw [Array.getD_eq_getD_getElem?, Array.getElem?_eq_none h] at hun; cases hun
  have hunf : L.getD i false = false := by
   rw [Array.getD_eq_getD_getElem?, Array.getElem?_eq_getElem hlt] at hun ⊢; exact hun
  rcases hcase with ⟨hLn, x, k, rfl, hkK, hTk, hLk, hr, hcl⟩ | ⟨hdone, _⟩
  ·have hdep : ∀ e ∈ o.after, Region.binds .any e = true → R e.on (x e.on) := fun e he hbd => hr _ (hall' e he hbd)
   refine wpOp_step ho fun K' hK => ?_
   rcases Nat.lt_or_ge i n with hin | hin
   ·have hLn' : (L.setIfInBounds i true).getD n false = false := by
     rw [getD_set hlt, hLn]; simp; omega
    have hr' : ∀ v, R i v → ∀ j, (L.setIfInBounds i true).getD j false = true → R j (upd x i v j) := by
     intro v hv j hj;by_cases h : j = i
     ·subst h; rw [upd_same]; exact hv
     rw [upd_ne _ _ h]; rw [getD_set hlt] at hj; exact hr j (by simpa [h] using hj)
    cases hsi : st i with
    | none =>
     refine hpure i o ho hin hsi k x w1 hTk hdep K' (fun v hRv => hK _ _ (Or.inl ⟨hLn', upd x i v, k, hput i o ho hin x v, hkK, hT _ _ _ _ _ hsi hTk, fun i' j hj => ?_, hr' v hRv, linG_hcl hlt ho hall' hcl⟩));have hne : i' ≠ i := by rintro rfl; rw [hsi] at hj; cases hj
     rw [getD_set hlt, ← hLk i' j hj];simp [hne]
    | some j0 =>
     have hk : k = j0 := by
      have h1 : ¬ j0 < k := fun h => by
       have := (hLk i j0 hsi).2 h;rw [hunf] at this; cases this
      cases j0 with
      | zero => omega
      | succ j =>
       obtain ⟨e, he, hbd, hse⟩ := hchain i o j ho hsi;have := (hLk e.on j hse).1 (hall' e he hbd);omega
     subst hk;refine hstage i o k ho hsi x w1 hTk hdep K' (fun v w' hRv hTv => hK _ _ (Or.inl ⟨hLn', upd x i v, k + 1, hput i o ho hin x v, (hst i k hsi).2, hTv, fun i' j hj => ?_, hr' v hRv, linG_hcl hlt ho hall' hcl⟩));rw [getD_set hlt];by_cases h : i' = i
     ·subst h
      rw [hsi] at hj;injection hj with hj;subst hj;simp
     have hjk : j ≠ k := fun e => h (hinj _ _ _ hj (by rw [e]; exact hsi))
     rw [show (decide (i' = i) || L.getD i' false) = L.getD i' false by simp [h], hLk i' j hj];omega
   have e : i = n := by omega
   subst e
   have hallj : ∀ m j, j < i → i - j ≤ m → L.getD j false = true := by
    intro m
    induction m with
    | zero => intro j hj hm; omega
    | succ m ih =>
     intro j hj hm;obtain ⟨k, o', hjk, hk, ho', e, he, hbd, hea⟩ := hreach j hj;rcases Nat.lt_or_ge k i with h | h
     ·rw [← hea]; exact hcl k o' ho' (ih k h (by omega)) e he hbd
     have e2 : k = i := by omega
     subst e2;rw [ho] at ho';injection ho' with ho';subst ho';rw [← hea]; exact hall' e he hbd
   have hkk : k = K := by
    rcases Nat.lt_or_ge k K with h | h
    ·obtain ⟨i', hi'⟩ := hall k h
     have := (hLk i' k hi').1 (hallj (i - i') i' (hst i' k hi').1 (Nat.le_refl _));omega
    omega
   subst hkk;refine hlast o ho x w1 hTk (fun j hj => hr j (hallj (i - j) j hj (Nat.le_refl _))) K' (fun a' w' hq => hK _ _ (Or.inr ⟨fun j hj => ?_, hq⟩));rw [getD_set hlt];by_cases h : j = i
   ·simp [h]
   rw [hallj (i - j) j (by omega) (Nat.le_refl _)]; simp
  have := hdone i (by omega);rw [hunf] at this; cases this
 ·rintro L a w1 hs hr0 (⟨hLn, x, k, rfl, hkK, hTk, hLk, hr, hcl⟩ | ⟨_, hq⟩)
  ·have hallL : ∀ i, i < ops.size → L.getD i false = true := by
    intro i
    induction i using Nat.strongRecOn with
    | ind i ih =>
     intro hi;cases h : L.getD i false
     ·exfalso
      have : i ∈ Region.ready .any ops L := by
       refine mem_ready.2 ⟨?_, ops[i], Array.getElem?_eq_getElem hi, fun e he hbd => ?_⟩
       ·rw [Array.getD_eq_getD_getElem?, Array.getElem?_eq_getElem (by omega)] at h ⊢; exact h
       have h1 := hac i _ (Array.getElem?_eq_getElem hi) e he hbd;exact ih e.on h1 (by omega)
      rw [hr0] at this; cases this
     rfl
   have := hallL n (by omega);rw [hLn] at this; cases this
  exact hq
 ·simp
 ·have hz : ∀ j, (Array.replicate ops.size false).getD j false = false := by
   intro j; rw [Array.getD_eq_getD_getElem?, Array.getElem?_replicate]; split <;> rfl
  refine Or.inl ⟨hz n, x0, 0, rfl, Nat.zero_le _, h0, fun i j hj => ?_, fun i h => ?_, fun i o _ h => ?_⟩
  ·rw [hz]; simp
  ·rw [hz] at h; cases h
  rw [hz] at h; cases h
end
def stg (a K i : Nat) : Option Nat := if a ≤ i ∧ i < a + K then some (i - a) else none
theorem stg_some {a K i j : Nat} (h : stg a K i = some j) : i = a + j ∧ j < K := by
 unfold stg at h;split at h
 ·injection h with h; omega
 cases h
theorem stg_at {a K j : Nat} (h : j < K) : stg a K (a + j) = some j := by
 unfold stg;rw [if_pos (by omega)];congr 1; omega
theorem stg_none {a K i : Nat} (h : stg a K i = none) : i < a ∨ a + K ≤ i := by
 unfold stg at h;split at h
 ·cases h
 omega
section
variable {P : Program} {ops : Array Oper} {Q : Exit → Act → World → Prop} {fr : (Nat → Value) → Act} {R : Nat → Value → Prop} {T : Nat → (Nat → Value) → World → Prop} {K a : Nat} {id : Nat} {w : World} {x0 : Nat → Value}
theorem wp_region_stg {n : Nat} (hm : P.follows .mixedOrders = true) (hn : ops.size = n + 1)
 (hput : ∀ i o, ops[i]? = some o → i < n → ∀ x v, (fr x).put o.dst v = fr (upd x i v))
 (hac : ∀ i o, ops[i]? = some o → ∀ e ∈ o.after, Region.binds .any e = true → e.on < i)
 (hreach : ∀ j, j < n → ∃ k o, j < k ∧ k ≤ n ∧ ops[k]? = some o ∧ ∃ e ∈ o.after, Region.binds .any e = true ∧ e.on = j)
 (haK : a + K ≤ n)
 (hchain : ∀ j o, j + 1 < K → ops[a + (j + 1)]? = some o → ∃ e ∈ o.after, Region.binds .any e = true ∧ e.on = a + j)
 (hT : ∀ k x i v w, i < a ∨ a + K ≤ i → T k x w → T k (upd x i v) w)
 (h0 : T 0 x0 w.drew)
 (hpure : ∀ i o, ops[i]? = some o → i < n → i < a ∨ a + K ≤ i → PureStep P ops Q fr R T i o)
 (hstage : ∀ k o, k < K → ops[a + k]? = some o → StageStep P ops Q fr R T k (a + k) o)
 (hlast : ∀ o, ops[n]? = some o → ∀ x wq, T K x wq → (∀ j, j < n → R j (x j)) → ∀ K' : Act → World → Prop, Shut (∀ a' w', Q .normal a' w' → K' a' w') →
  if Region.wanted o (yielded ops (fr x).tmps) = true then Oper.wp P o (fr x) wq K' Q else K' ((fr x).put o.dst undef) wq) :
 (Code.region id ops true).wp P Q (fr x0) w :=
 wp_region_stage (R := R) (T := T) (st := stg a K) (K := K) hm hn hput hac hreach
  (fun i j h => by obtain ⟨h1, h2⟩ := stg_some h; omega)
  (fun i i' j h h' => by obtain ⟨h1, _⟩ := stg_some h; obtain ⟨h2, _⟩ := stg_some h'; omega)
  (fun j h => ⟨a + j, stg_at h⟩)
  (fun i o j ho h => by
   obtain ⟨rfl, h2⟩ := stg_some h;obtain ⟨e, he, hb, hon⟩ := hchain j o h2 ho
   exact ⟨e, he, hb, by rw [hon]; exact stg_at (by omega)⟩)
  (fun k x i v w h => hT k x i v w (stg_none h)) h0
  (fun i o ho hi h => hpure i o ho hi (stg_none h))
  (fun i o k ho h => by obtain ⟨rfl, h2⟩ := stg_some h; exact hstage k o h2 ho) hlast
end
def stl (sl : List Nat) (i : Nat) : Option Nat := sl.findIdx? (· == i)
theorem stl_some {sl : List Nat} {i j : Nat} (h : stl sl i = some j) : sl[j]? = some i := by
 unfold stl at h;rw [List.findIdx?_eq_some_iff_getElem] at h;obtain ⟨hj, h1, _⟩ := h;rw [List.getElem?_eq_getElem hj];rw [beq_iff_eq] at h1;rw [h1]
theorem stl_none {sl : List Nat} {i : Nat} (h : stl sl i = none) : i ∉ sl := by
 unfold stl at h;rw [List.findIdx?_eq_none_iff] at h;intro hm;have := h i hm;simp at this
theorem stl_lt {sl : List Nat} {i j : Nat} (h : sl[j]? = some i) : j < sl.length := (List.getElem?_eq_some_iff.1 h).1
section
variable {P : Program} {ops : Array Oper} {Q : Exit → Act → World → Prop} {fr : (Nat → Value) → Act} {R : Nat → Value → Prop} {T : Nat → (Nat → Value) → World → Prop} {id : Nat} {w : World} {x0 : Nat → Value}
theorem wp_region_stl (sl : List Nat) {n : Nat} (hm : P.follows .mixedOrders = true) (hn : ops.size = n + 1)
 (hput : ∀ i o, ops[i]? = some o → i < n → ∀ x v, (fr x).put o.dst v = fr (upd x i v))
 (hac : ∀ i o, ops[i]? = some o → ∀ e ∈ o.after, Region.binds .any e = true → e.on < i)
 (hreach : ∀ j, j < n → ∃ k o, j < k ∧ k ≤ n ∧ ops[k]? = some o ∧ ∃ e ∈ o.after, Region.binds .any e = true ∧ e.on = j)
 (hsl : ∀ i ∈ sl, i < n) (hidx : ∀ j, j < sl.length → ∃ i, sl[j]? = some i ∧ stl sl i = some j)
 (hchain : ∀ i o j, ops[i]? = some o → sl[j + 1]? = some i → ∃ e ∈ o.after, Region.binds .any e = true ∧ stl sl e.on = some j)
 (hT : ∀ k x i v w, i ∉ sl → T k x w → T k (upd x i v) w)
 (h0 : T 0 x0 w.drew)
 (hpure : ∀ i o, ops[i]? = some o → i < n → i ∉ sl → PureStep P ops Q fr R T i o)
 (hstage : ∀ k i o, sl[k]? = some i → ops[i]? = some o → StageStep P ops Q fr R T k i o)
 (hlast : ∀ o, ops[n]? = some o → ∀ x wq, T sl.length x wq → (∀ j, j < n → R j (x j)) → ∀ K' : Act → World → Prop, Shut (∀ a' w', Q .normal a' w' → K' a' w') →
  if Region.wanted o (yielded ops (fr x).tmps) = true then Oper.wp P o (fr x) wq K' Q else K' ((fr x).put o.dst undef) wq) :
 (Code.region id ops true).wp P Q (fr x0) w :=
 wp_region_stage (R := R) (T := T) (st := stl sl) (K := sl.length) hm hn hput hac hreach
  (fun i j h => ⟨hsl i (List.mem_of_getElem? (stl_some h)), stl_lt (stl_some h)⟩)
  (fun i i' j h h' => by have h1 := stl_some h; rw [stl_some h'] at h1; injection h1 with h1; exact h1.symm)
  (fun j h => by obtain ⟨i, _, hi⟩ := hidx j h; exact ⟨i, hi⟩)
  (fun i o j ho h => hchain i o j ho (stl_some h))
  (fun k x i v w h => hT k x i v w (stl_none h)) h0
  (fun i o ho hi h => hpure i o ho hi (stl_none h))
  (fun i o k ho h => hstage k i o (stl_some h) ho) hlast
end
def VE (u : Value) : Value → Prop := fun v => v = u
def VA : Value → Prop := fun _ => True
structure RdL (B : Nat) (w : World) (gr : Nat) (s : PS) (A : Option Addr) (n c : Nat) (A' : Option Addr) (n' c' : Nat) (A'' : Option Addr) (n'' c'' : Nat) : Prop where
  rd : RdP B w gr (strV s.L.name) (.slice A n c) (.slice A' n' c') (.slice A'' n'' c'') s
  bd : RowT 45 (BdC 130) 2 w B (.slice A n c) n s.L.bodies
  jt : RowT 116 JtC 7 w B (.slice A' n' c') n' s.L.joints
  dr : RowT 118 DrC 2 w B (.slice A'' n'' c'') n'' s.L.drivers
  nm : NmL s.L.name
  cnt : n + n' + n'' + s.toks.length ≤ 70000
  pts : ∀ b ∈ s.L.bodies, b.pts.length ≤ 70000
def RetL_ (B : Nat) (w : World) (gr : Nat) (s : PS) (e : Ending) (w' : World) : Prop := e = .returned (.tuple #[]) ∧ (∃ A n c A' n' c' A'' n'' c'', RdL B w' gr s A n c A' n' c' A'' n'' c'') ∧ Below B w w'
section
variable {B : Nat} {w w' : World} {gr : Nat} {c1 c2 c3 c4 : Value} {s : PS}
theorem RdP.other {T : TypeId → Bool} (h : RdP B w gr c1 c2 c3 c4 s) (ht : Tch T w w') (hT : T 124 = false) (hb : Below B w w') : RdP B w' gr c1 c2 c3 c4 s := by
 obtain ⟨A, n, c, h1, h2⟩ := h.blk;exact ⟨⟨A, n, c, ht.2 gr _ _ _ h1 (.inl hT), h2.belB hb⟩, h.mx.belB hb, h.hB, h.len, h.txt, h.hw⟩
theorem RdP.put2 (h : RdP B w gr c1 c2 c3 c4 s) (v : Value) (hv : noW v = true) {s2 : PS} (e1 : s2.toks = s.toks) (e2 : s2.x = s.x) : RdP B (w.setCell ⟨gr, 2, none⟩ v) gr c1 v c3 c4 s2 := by
 obtain ⟨A, n, c, h1, h2⟩ := h.blk;have hb : Below B w (w.setCell ⟨gr, 2, none⟩ v) := (Below.refl B w).setCell (p := ⟨gr, 2, none⟩) h.hB v;exact ⟨⟨A, n, c, by rw [e2]; exact h1.s62 v, by rw [e1]; exact h2.belB hb⟩, h.mx.belB hb, h.hB, by rw [e1]; exact h.len, by rw [e1]; exact h.txt, h.hw.1, hv, h.hw.2.2⟩
theorem RdP.put3 (h : RdP B w gr c1 c2 c3 c4 s) (v : Value) (hv : noW v = true) {s2 : PS} (e1 : s2.toks = s.toks) (e2 : s2.x = s.x) : RdP B (w.setCell ⟨gr, 3, none⟩ v) gr c1 c2 v c4 s2 := by
 obtain ⟨A, n, c, h1, h2⟩ := h.blk;have hb : Below B w (w.setCell ⟨gr, 3, none⟩ v) := (Below.refl B w).setCell (p := ⟨gr, 3, none⟩) h.hB v;exact ⟨⟨A, n, c, by rw [e2]; exact h1.s63 v, by rw [e1]; exact h2.belB hb⟩, h.mx.belB hb, h.hB, by rw [e1]; exact h.len, by rw [e1]; exact h.txt, h.hw.1, h.hw.2.1, hv, h.hw.2.2.2⟩
theorem RdP.put4 (h : RdP B w gr c1 c2 c3 c4 s) (v : Value) (hv : noW v = true) {s2 : PS} (e1 : s2.toks = s.toks) (e2 : s2.x = s.x) : RdP B (w.setCell ⟨gr, 4, none⟩ v) gr c1 c2 c3 v s2 := by
 obtain ⟨A, n, c, h1, h2⟩ := h.blk;have hb : Below B w (w.setCell ⟨gr, 4, none⟩ v) := (Below.refl B w).setCell (p := ⟨gr, 4, none⟩) h.hB v;exact ⟨⟨A, n, c, by rw [e2]; exact h1.s64 v, by rw [e1]; exact h2.belB hb⟩, h.mx.belB hb, h.hB, by rw [e1]; exact h.len, by rw [e1]; exact h.txt, h.hw.1, h.hw.2.1, h.hw.2.2.1, hv⟩
theorem RdP.put1 (h : RdP B w gr c1 c2 c3 c4 s) (v : Value) (hv : noW v = true) {s2 : PS} (e1 : s2.toks = s.toks) (e2 : s2.x = s.x) : RdP B (w.setCell ⟨gr, 1, none⟩ v) gr v c2 c3 c4 s2 := by
 obtain ⟨A, n, c, h1, h2⟩ := h.blk;have hb : Below B w (w.setCell ⟨gr, 1, none⟩ v) := (Below.refl B w).setCell (p := ⟨gr, 1, none⟩) h.hB v;exact ⟨⟨A, n, c, by rw [e2]; exact h1.s61 v, by rw [e1]; exact h2.belB hb⟩, h.mx.belB hb, h.hB, by rw [e1]; exact h.len, by rw [e1]; exact h.txt, hv, h.hw.2⟩
theorem RdP.drew (h : RdP B w gr c1 c2 c3 c4 s) : RdP B w.drew gr c1 c2 c3 c4 s := ⟨h.blk, h.mx, h.hB, h.len, h.txt, h.hw⟩
theorem RdP.cells (h : RdP B w gr c1 c2 c3 c4 s) : w.cell? ⟨gr, 1, none⟩ = some c1 ∧ w.cell? ⟨gr, 2, none⟩ = some c2 ∧ w.cell? ⟨gr, 3, none⟩ = some c3 ∧ w.cell? ⟨gr, 4, none⟩ = some c4 ∧ w.frozen? ⟨gr, 1, none⟩ = false ∧ w.frozen? ⟨gr, 2, none⟩ = false ∧ w.frozen? ⟨gr, 3, none⟩ = false ∧ w.frozen? ⟨gr, 4, none⟩ = false := by
 obtain ⟨A, n, c, hb, _⟩ := h.blk;obtain ⟨_, a1, a2, a3, a4, _⟩ := hb.c6;exact ⟨a1, a2, a3, a4, hb.frozen 1, hb.frozen 2, hb.frozen 3, hb.frozen 4⟩
def TOne (t : TypeId) : TypeId → Bool := fun u => u == t
theorem RdP.tchR (h : RdP B w gr c1 c2 c3 c4 s) (k : w.grownBy w' (some gr)) : Tch (TOne 124) w w' := h.tch k (by simp [TOne])
end
theorem row_push {α : Type} {T0 : TypeId} {Pc : World → List Value → α → Prop} {sz B n : Nat} {w w5 : World} {v v5 : Value} {l : List α} {xs cs : List Value} {a : α} {o : Obj} (hl : l.length = n) (hown : OwJ noW w B T0 sz v n xs) (hrow : RowC Pc sz w l xs)
 (hm : Pc w cs a) (hcs : cs.length = sz) (hown5 : OwJ noW w5 B T0 sz v5 (n + 1) (xs ++ cs)) (hgrow : (w.alloc o).grownBy w5 v.ownBlock) (hB : B ≤ w.heap.size) (hPc : ∀ w' cs a, Tch (TOne T0) w w' → Pc w cs a → Pc w' cs a) :
 RowT T0 Pc sz w5 B v5 (n + 1) (l ++ [a]) ∧ Tch (TOne T0) w w5 ∧ Below B w w5 := by
 have hownA : OwJ noW (w.alloc o) B T0 sz v n xs := hown.belw ((Below.refl _ _).alloc (Nat.le_refl _) o);have ht : Tch (TOne T0) w w5 := (Tch.below ((Below.refl _ _).alloc (Nat.le_refl _) o)).trans (Tch.grown (fun _ hu => hu) (by simp [TOne]) hownA hgrow);exact ⟨⟨by simp [hl], xs ++ cs, hown5, (hrow.map_ fun cs a x => hPc _ _ _ ht x).snoc (hPc _ _ _ ht hm) hcs⟩, ht, ((Below.refl B w).alloc hB o).grown hgrow (by simp; omega) (fun k hk => (hown.at_ hk).1)⟩
def BdSt (B gr : Nat) (w : World) (c1 c2 c3 c4 : Value) (s : PS) (b : BodyL) (v : Value) (wq : World) : Prop :=
  ∃ A n c, v = .agg #[strV b.name, .slice A n c] ∧ MksT 130 wq A n c b.pts ∧ NmL b.name ∧ RdP B wq gr c1 c2 c3 c4 s ∧ w.grownBy wq (some gr)
def TB (B gr : Nat) (w : World) (c1 c2 c3 c4 : Value) (s : PS) (b : BodyL) (n : Nat) (l : List BodyL) : Nat → Value → Value → Value → World → Prop
  | 0, _, _, _, wq => wq = w.drew
  | 1, v7, _, _, wq => BdSt B gr w c1 c2 c3 c4 s b v7 wq
  | 2, _, v8, _, wq => ∃ w2 A n' c', BdSt B gr w c1 c2 c3 c4 s b (.agg #[strV b.name, .slice A n' c']) w2 ∧ v8 = .slice (some ⟨w2.heap.size, 0, none⟩) 1 1 ∧ wq = w2.alloc (.cells #[strV b.name, .slice A n' c'] 45)
  | 3, _, _, v9, wq => ∃ w2 v A5 c5, BdSt B gr w c1 c2 c3 c4 s b v w2 ∧ v9 = .slice A5 (n + 1) c5 ∧ RowT 45 (BdC 130) 2 wq B v9 (n + 1) (l ++ [b]) ∧ Tch (TOne 45) w2 wq ∧ Below B w2 wq
  | _, _, _, _, _ => False
theorem TB.rd {B gr : Nat} {w : World} {c1 c2 c3 c4 : Value} {s0 s : PS} {b : BodyL} {n : Nat} {l : List BodyL} (h0 : RdP B w gr c1 c2 c3 c4 s0) : ∀ {k : Nat} {v7 v8 v9 : Value} {wq : World}, TB B gr w c1 c2 c3 c4 s b n l k v7 v8 v9 wq → ∃ s', RdP B wq gr c1 c2 c3 c4 s'
 | 0, _, _, _, _, h => by
  have h : _ = _ := h;rw [h];exact ⟨s0, ⟨h0.blk, h0.mx, h0.hB, h0.len, h0.txt, h0.hw⟩⟩
 | 1, _, _, _, _, ⟨_, _, _, _, _, _, h, _⟩ => ⟨s, h⟩
 | 2, _, _, _, _, ⟨w2, _, _, _, ⟨_, _, _, _, _, _, h, _⟩, _, e⟩ => ⟨s, by rw [e]; exact h.alloc _⟩
 | 3, _, _, _, _, ⟨w2, _, _, _, ⟨_, _, _, _, _, _, h, _⟩, _, _, ht, hb⟩ => ⟨s, h.other ht (by decide) hb⟩
 | _ + 4, _, _, _, _, h => False.elim h
def TJ_ {α : Type} (T0 : TypeId) (Pc : World → List Value → α → Prop) (sz : Nat) (B gj : Nat) (w : World) (cs : List Value) (a : α) (n : Nat) (l : List α) : Nat → Value → Value → World → Prop
  | 0, _, _, wq => wq = w.drew
  | 1, v7, _, wq => v7 = .slice (some ⟨w.heap.size, 0, none⟩) 1 1 ∧ wq = w.drew.alloc (.cells cs.toArray T0)
  | 2, _, v8, wq => ∃ A5 c5, v8 = .slice A5 (n + 1) c5 ∧ RowT T0 Pc sz wq B v8 (n + 1) (l ++ [a]) ∧ Blk wq gj T0 cs.toArray ∧ Tch (TOne T0) w wq ∧ Below B w wq
  | _, _, _, _ => False
theorem TJ_.rd {α : Type} {T0 : TypeId} {Pc : World → List Value → α → Prop} {sz B gj gr n : Nat} {w : World} {cs : List Value} {a : α} {l : List α} {c1 c2 c3 c4 : Value} {s : PS} (hT : TOne T0 124 = false) (h0 : RdP B w gr c1 c2 c3 c4 s) : ∀ {k : Nat} {v7 v8 : Value} {wq : World}, TJ_ T0 Pc sz B gj w cs a n l k v7 v8 wq → RdP B wq gr c1 c2 c3 c4 s
 | 0, _, _, _, h => by
  have h : _ = _ := h;rw [h];exact ⟨h0.blk, h0.mx, h0.hB, h0.len, h0.txt, h0.hw⟩
 | 1, _, _, _, ⟨_, e⟩ => by
  rw [e];exact h0.drew.alloc _
 | 2, _, _, _, ⟨_, _, _, _, _, ht, hb⟩ => h0.other ht hT hb
 | _ + 3, _, _, _, h => False.elim h
theorem TJ_.blk {α : Type} {T0 : TypeId} {Pc : World → List Value → α → Prop} {sz B gj n : Nat} {w : World} {cs : List Value} {a : α} {l : List α} (hb : Blk w gj T0 cs.toArray) : ∀ {k : Nat} {v7 v8 : Value} {wq : World}, TJ_ T0 Pc sz B gj w cs a n l k v7 v8 wq → Blk wq gj T0 cs.toArray
 | 0, _, _, _, h => by
  have h : _ = _ := h;rw [h]; exact hb.drew
 | 1, _, _, _, ⟨_, e⟩ => by rw [e]; exact hb.drew.alloc _
 | 2, _, _, _, ⟨_, _, _, _, h, _⟩ => h
 | _ + 3, _, _, _, h => False.elim h
abbrev fr4 (u0 u1 u2 u3 u4 u5 u6 u7 u8 u9 u10 u11 u12 u26 u27 u28 u29 u30 u31 u32 u33 u34 u35 u36 u37 u38 u39 u40 u41 u42 u43 u44 u45 u46 u47 u48 u49 u50 u51 u52 u53 u54 u55 u56 u57 u58 u59 u60 u61 u62 u63 u64 u65 u66 u67 u68 u69 u70 u71 u72 u73 u74 u75 u76 u77 u78 u79 u80 u81 u82 u83 u84 u85 u86 u87 u88 u89 u90 u91 u92 : Value) (xf : Nat → Value) : Act := ⟨List.toArray (u0 :: u1 :: u2 :: u3 :: u4 :: u5 :: u6 :: u7 :: u8 :: u9 :: u10 :: u11 :: u12 :: xf 0 :: xf 1 :: xf 2 :: xf 3 :: xf 4 :: xf 5 :: xf 6 :: xf 7 :: xf 8 :: xf 9 :: xf 10 :: xf 11 :: xf 12 :: u26 :: u27 :: u28 :: u29 :: u30 :: u31 :: u32 :: u33 :: u34 :: u35 :: u36 :: u37 :: u38 :: u39 :: u40 :: u41 :: u42 :: u43 :: u44 :: u45 :: u46 :: u47 :: u48 :: u49 :: u50 :: u51 :: u52 :: u53 :: u54 :: u55 :: u56 :: u57 :: u58 :: u59 :: u60 :: u61 :: u62 :: u63 :: u64 :: u65 :: u66 :: u67 :: u68 :: u69 :: u70 :: u71 :: u72 :: u73 :: u74 :: u75 :: u76 :: u77 :: u78 :: u79 :: u80 :: u81 :: u82 :: u83 :: u84 :: u85 :: u86 :: u87 :: u88 :: u89 :: u90 :: u91 :: u92 :: []), []⟩
abbrev fr14 (u0 u1 u2 u3 u4 u5 u6 u7 u8 u9 u10 u11 u12 u13 u14 u15 u16 u17 u18 u19 u20 u21 u22 u23 u24 u25 u26 u27 u28 u29 u30 u31 u32 u33 u34 u35 u36 u37 u38 u39 u40 u41 u42 u43 u44 u45 u46 u47 u48 u49 u50 u51 u52 u53 u54 u55 u56 u57 u58 u71 u72 u73 u74 u75 u76 u77 u78 u79 u80 u81 u82 u83 u84 u85 u86 u87 u88 u89 u90 u91 u92 : Value) (xf : Nat → Value) : Act := ⟨List.toArray (u0 :: u1 :: u2 :: u3 :: u4 :: u5 :: u6 :: u7 :: u8 :: u9 :: u10 :: u11 :: u12 :: u13 :: u14 :: u15 :: u16 :: u17 :: u18 :: u19 :: u20 :: u21 :: u22 :: u23 :: u24 :: u25 :: u26 :: u27 :: u28 :: u29 :: u30 :: u31 :: u32 :: u33 :: u34 :: u35 :: u36 :: u37 :: u38 :: u39 :: u40 :: u41 :: u42 :: u43 :: u44 :: u45 :: u46 :: u47 :: u48 :: u49 :: u50 :: u51 :: u52 :: u53 :: u54 :: u55 :: u56 :: u57 :: u58 :: xf 0 :: xf 1 :: xf 2 :: xf 3 :: xf 4 :: xf 5 :: xf 6 :: xf 7 :: xf 8 :: xf 9 :: xf 10 :: xf 11 :: u71 :: u72 :: u73 :: u74 :: u75 :: u76 :: u77 :: u78 :: u79 :: u80 :: u81 :: u82 :: u83 :: u84 :: u85 :: u86 :: u87 :: u88 :: u89 :: u90 :: u91 :: u92 :: []), []⟩
abbrev fr19 (u0 u1 u2 u3 u4 u5 u6 u7 u8 u9 u10 u11 u12 u13 u14 u15 u16 u17 u18 u19 u20 u21 u22 u23 u24 u25 u26 u27 u28 u29 u30 u31 u32 u33 u34 u35 u36 u37 u38 u39 u40 u41 u42 u43 u44 u45 u46 u47 u48 u49 u50 u51 u52 u53 u54 u55 u56 u57 u58 u59 u60 u61 u62 u63 u64 u65 u66 u67 u68 u69 u70 u71 u72 u73 u74 u75 u76 u77 u78 u79 u80 : Value) (xf : Nat → Value) : Act := ⟨List.toArray (u0 :: u1 :: u2 :: u3 :: u4 :: u5 :: u6 :: u7 :: u8 :: u9 :: u10 :: u11 :: u12 :: u13 :: u14 :: u15 :: u16 :: u17 :: u18 :: u19 :: u20 :: u21 :: u22 :: u23 :: u24 :: u25 :: u26 :: u27 :: u28 :: u29 :: u30 :: u31 :: u32 :: u33 :: u34 :: u35 :: u36 :: u37 :: u38 :: u39 :: u40 :: u41 :: u42 :: u43 :: u44 :: u45 :: u46 :: u47 :: u48 :: u49 :: u50 :: u51 :: u52 :: u53 :: u54 :: u55 :: u56 :: u57 :: u58 :: u59 :: u60 :: u61 :: u62 :: u63 :: u64 :: u65 :: u66 :: u67 :: u68 :: u69 :: u70 :: u71 :: u72 :: u73 :: u74 :: u75 :: u76 :: u77 :: u78 :: u79 :: u80 :: xf 0 :: xf 1 :: xf 2 :: xf 3 :: xf 4 :: xf 5 :: xf 6 :: xf 7 :: xf 8 :: xf 9 :: xf 10 :: xf 11 :: []), []⟩
theorem own_lt {α : Type} {T0 : TypeId} {Pc : World → List Value → α → Prop} {sz base n g : Nat} {w : World} {v : Value} {l : List α} (h : RowT T0 Pc sz w base v n l) (hg : w.heap.size ≤ g) : some g ≠ v.ownBlock := by
 intro e;obtain ⟨_, xs, hown, _⟩ := h;obtain ⟨_, cur, h2, _⟩ := hown.at_ e.symm;have := lt_of_block h2;omega
theorem bel_set2 {B g : Nat} (w : World) (hB : B ≤ g) (i j : Nat) (u0 u1 : Value) : Below B w ((w.setCell ⟨g, i, none⟩ u0).setCell ⟨g, j, none⟩ u1) :=
 ((Below.refl B w).setCell (p := ⟨g, i, none⟩) hB u0).setCell (p := ⟨g, j, none⟩) hB u1
theorem rd_item_body (B : Nat) (w : World) (gr : Nat) (s : PS) (A : Option Addr) (n c : Nat) (A' : Option Addr) (n' c' : Nat) (A'' : Option Addr) (n'' c'' : Nat) (h : RdL B w gr s A n c A' n' c' A'' n'' c'') (hw1 : s.word.1 = wBody) : Calls Tryz.prog 72 #[.pointer (some ⟨gr, 0, none⟩)] w (RetL_ B w gr s.item) := by
 have HW1 := Lib.hid hw1;have hb0 : (s.word.1 == [98, 111, 100, 121]) = true := by rw [hw1]; decide
 clear hw1;obtain ⟨i0, hi0, hz0, hz1, hz2⟩ := info_parts info_bd;obtain ⟨ij, hj0, hj1, hj2, hj3⟩ := info_parts info_jt;obtain ⟨id, hd0, hd1, hd2, hd3⟩ := info_parts info_dr;have HI := Lib.hid (And.intro hi0 (And.intro hz0 (And.intro hz1 hz2)));have HIJ := Lib.hid (And.intro hj0 (And.intro hj1 (And.intro hj2 hj3)));have HID := Lib.hid (And.intro hd0 (And.intro hd1 (And.intro hd2 hd3)));clear hi0 hz0 hz1 hz2 hj0 hj1 hj2 hj3 hd0 hd1 hd2 hd3;have HL1 := Lib.hid (word_stp s).2.2.2;have HL2 := Lib.hid ((word_stp s).trans (word_stp s.word.2)).2.2.2;have HP := Lib.hid h;obtain ⟨W, hW⟩ : ∃ W, s.item = W := ⟨_, rfl⟩;rw [hW];have HW := Lib.hid hW;clear h hW;go_enter Tryz.func72, Tryz.ntmps72;go_wp2_with fail;(with_reducible refine (rd_word B _ gr (strV s.L.name) (.slice A n c) (.slice A' n' c') (.slice A'' n'' c'') s HP.out.rd).mono ?_); rintro e w1 ⟨rfl, h1, hg1⟩;have H1 := Lib.hid h1;have hgl := h1.lt;have BW1 := Lib.hid (rg_bel hg1 (B := B) (by have := HP.out.rd.lt; have := HP.out.rd.hB; omega) HP.out.rd.hB);have t0 := HP.out.rd.tchR hg1;have BD1 := Lib.hid (HP.out.bd.tch t0 (by decide) (fun _ _ x => x.tch t0 (by decide)));have JT1 := Lib.hid (HP.out.jt.tch t0 (by decide) (fun _ _ x => x));have DR1 := Lib.hid (HP.out.dr.tch t0 (by decide) (fun _ _ x => x));obtain ⟨Ak, nk, ck, hbk, _⟩ := h1.blk;have HBk := Lib.hid hbk;clear h1 hg1 t0 hbk;have hn := toList_v s.word.1;go_wp2_with fail;change Code.wp _ _ _ (fr4 _ _ _ _ _ _ _ _ _ _ _ _ _ _ _ _ _ _ _ _ _ _ _ _ _ _ _ _ _ _ _ _ _ _ _ _ _ _ _ _ _ _ _ _ _ _ _ _ _ _ _ _ _ _ _ _ _ _ _ _ _ _ _ _ _ _ _ _ _ _ _ _ _ _ _ _ _ _ _ _ (fun _ => undef)) _;refine wp_region_stg (n := 13) (a := 7) (K := 3) (x0 := fun _ => undef) (R := fun ri => List.getD ((VE (.pointer (some ⟨gr, 0, none⟩))) :: (VE (.pointer (some ⟨gr, 0, none⟩))) :: (VE (.pointer (some ⟨gr, 0, none⟩))) :: (VE (.pointer (some ⟨gr, 1, none⟩))) :: (VE (.pointer (some ⟨gr, 2, none⟩))) :: (VE (.slice A n c)) :: (VE (.pointer (some ⟨gr, 0, none⟩))) :: VA :: VA :: VA :: (VE (.pointer (some ⟨gr, 0, none⟩))) :: (VE (.pointer (some ⟨gr, 1, none⟩))) :: (VE (.pointer (some ⟨gr, 2, none⟩))) :: []) ri VA) (T := fun k x wq => TB B gr w1 (strV s.L.name) (.slice A n c) (.slice A' n' c') (.slice A'' n'' c'') s.word.2.body.2 s.word.2.body.1 n s.L.bodies k (x 7) (x 8) (x 9) wq) (by kernel_rfl) rfl ?_ ?_ ?_ (by decide) ?_ ?_ rfl ?_ ?_ ?_
 ·exact each_of ⟨(fun _ _ _ => rfl), (fun _ _ _ => rfl), (fun _ _ _ => rfl), (fun _ _ _ => rfl), (fun _ _ _ => rfl), (fun _ _ _ => rfl), (fun _ _ _ => rfl), (fun _ _ _ => rfl), (fun _ _ _ => rfl), (fun _ _ _ => rfl), (fun _ _ _ => rfl), (fun _ _ _ => rfl), (fun _ _ _ => rfl), (fun h => absurd h (by decide)), trivial⟩
 ·exact each_of (acyc_from _ 0 (by kernel_rfl))
 ·exact (fun j hj => reach_of (by kernel_rfl) hj)
 ·intro j o hj ho
  obtain rfl | rfl : j = 0 ∨ j = 1 := by omega
  ·injection ho with ho
   subst ho;exact ⟨⟨7, .data⟩, by simp, rfl, rfl⟩
  injection ho with ho;subst ho;exact ⟨⟨8, .data⟩, by simp, rfl, rfl⟩
 ·intro k x i v w hi h
  have e7 : upd x i v 7 = x 7 := upd_ne _ _ (by omega);have e8 : upd x i v 8 = x 8 := upd_ne _ _ (by omega);have e9 : upd x i v 9 = x 9 := upd_ne _ _ (by omega);simp only [e7, e8, e9];exact h
 ·refine each_of ⟨?_, ?_, ?_, ?_, ?_, ?_, ?_, (fun _ h => absurd h (by decide)), (fun _ h => absurd h (by decide)), (fun _ h => absurd h (by decide)), ?_, ?_, ?_, (fun h => absurd h (by decide)), trivial⟩
  ·intro _ _ k xf wq hT hd K hK
   (try dsimp only [fr4]);go_simp;have hz := hK.out _ rfl;exact hz
  ·intro _ _ k xf wq hT hd K hK
   (try dsimp only [fr4]);go_simp;have hz := hK.out _ rfl;exact hz
  ·intro _ _ k xf wq hT hd K hK
   have dq1 : xf 1 = .pointer (some ⟨gr, 0, none⟩) := hd ⟨1, .data⟩ (by simp) rfl;(try dsimp only [fr4]); (try simp only [dq1]);go_simp;have hz := hK.out _ rfl;dsimp only [fr4] at hz;simp only [dq1] at hz;exact hz
  ·intro _ _ k xf wq hT hd K hK
   have dq2 : xf 2 = .pointer (some ⟨gr, 0, none⟩) := hd ⟨2, .data⟩ (by simp) rfl;(try dsimp only [fr4]); (try simp only [dq2]);go_simp;have hz := hK.out _ rfl;dsimp only [fr4] at hz;simp only [dq2] at hz;exact hz
  ·intro _ _ k xf wq hT hd K hK
   have dq3 : xf 3 = .pointer (some ⟨gr, 1, none⟩) := hd ⟨3, .data⟩ (by simp) rfl;(try dsimp only [fr4]); (try simp only [dq3]);go_simp;have hz := hK.out _ rfl;dsimp only [fr4] at hz;simp only [dq3] at hz;exact hz
  ·intro _ _ k xf wq hT hd K hK
   have dq4 : xf 4 = .pointer (some ⟨gr, 2, none⟩) := hd ⟨4, .data⟩ (by simp) rfl;obtain ⟨sz, hRz⟩ := TB.rd H1.out hT;obtain ⟨_, hc2, _⟩ := hRz.cells;(try dsimp only [fr4]); (try simp only [dq4]);go_simp;have hz := hK.out _ rfl;dsimp only [fr4] at hz;simp only [dq4] at hz;exact hz
  ·intro _ _ k xf wq hT hd K hK
   (try dsimp only [fr4]);go_simp;have hz := hK.out _ rfl;exact hz
  ·intro _ _ k xf wq hT hd K hK
   have dq0 : xf 0 = .pointer (some ⟨gr, 0, none⟩) := hd ⟨0, .data⟩ (by simp) rfl;(try dsimp only [fr4]); (try simp only [dq0]);go_simp;have hz := hK.out _ rfl;dsimp only [fr4] at hz;simp only [dq0] at hz;exact hz
  ·intro _ _ k xf wq hT hd K hK
   have dq10 : xf 10 = .pointer (some ⟨gr, 0, none⟩) := hd ⟨10, .data⟩ (by simp) rfl;(try dsimp only [fr4]); (try simp only [dq10]);go_simp;have hz := hK.out _ rfl;dsimp only [fr4] at hz;simp only [dq10] at hz;exact hz
  intro _ _ k xf wq hT hd K hK;have dq11 : xf 11 = .pointer (some ⟨gr, 1, none⟩) := hd ⟨11, .data⟩ (by simp) rfl;(try dsimp only [fr4]); (try simp only [dq11]);go_simp;have hz := hK.out _ rfl;dsimp only [fr4] at hz;simp only [dq11] at hz;exact hz
 ·intro k o hk ho
  obtain rfl | rfl | rfl := (show k = 0 ∨ k = 1 ∨ k = 2 by omega)
  ·injection ho with ho
   subst ho;intro xf wq hT hd K hK;have dq6 : xf 6 = .pointer (some ⟨gr, 0, none⟩) := hd ⟨6, .data⟩ (by simp) rfl;have hT : wq = w1.drew := hT;subst hT;(try dsimp only [fr4]); (try simp only [dq6]);go_simp;go_at_call 78;(with_reducible refine (rd_body B _ gr (strV s.L.name) (.slice A n c) (.slice A' n' c') (.slice A'' n'' c'') s.word.2 H1.out.drew).mono ?_); rintro e wr ⟨A3, n3, c3, rfl, hm, hnm, hr, hg⟩;have hz := hK.out _ _ trivial ⟨A3, n3, c3, rfl, hm, hnm, hr, rg_trans (rg_drew (rg_refl gr w1)) hg⟩;dsimp only [fr4] at hz;simp only [dq6] at hz;exact hz
  ·injection ho with ho
   subst ho;intro xf wq hT hd K hK;obtain ⟨A3, n3, c3, e7, hm, hnm, hr, hg⟩ : TB B gr w1 (strV s.L.name) (.slice A n c) (.slice A' n' c') (.slice A'' n'' c'') s.word.2.body.2 s.word.2.body.1 n s.L.bodies 1 (xf 7) (xf 8) (xf 9) wq := hT;(try dsimp only [fr4]); (try simp only [e7]);go_simp;have hz := hK.out (.slice (some ⟨wq.heap.size, 0, none⟩) 1 1) (wq.alloc (.cells #[strV s.word.2.body.1.name, .slice A3 n3 c3] 45)) trivial ⟨wq, A3, n3, c3, ⟨A3, n3, c3, rfl, hm, hnm, hr, hg⟩, rfl, rfl⟩;dsimp only [fr4] at hz;simp only [e7] at hz;exact hz
  injection ho with ho;subst ho;intro xf wq hT hd K hK;obtain ⟨w2, A3, n3, c3, ⟨A4, n4, c4, e4, hm, hnm, hr, hg⟩, e8, ew⟩ : TB B gr w1 (strV s.L.name) (.slice A n c) (.slice A' n' c') (.slice A'' n'' c'') s.word.2.body.2 s.word.2.body.1 n s.L.bodies 2 (xf 7) (xf 8) (xf 9) wq := hT;subst ew;cases e4;have dq5 : xf 5 = .slice A n c := hd ⟨5, .data⟩ (by simp) rfl;obtain ⟨hl, xs, hown, hrow⟩ := BD1.out.rgt HBk.out (by decide) hg (fun _ _ x => x.tch (H1.out.tchR hg) (by decide));have hlt := hr.lt;have hBg := hr.hB;rw [if_pos (show Region.wanted _ _ = true from rfl)];refine wp_append_J _ noW _ _ _ rfl B 45 i0 (.agg #[.string ⟨#[]⟩, .slice none 0 0]) 2 40 Tryz.underlying32 HI.out.1 HI.out.2.1 HI.out.2.2.1 HI.out.2.2.2 rfl (by omega) rfl (.slice A n c) n xs dq5 (hown.belw ((Below.refl _ _).alloc (Nat.le_refl _) _)) ⟨w2.heap.size, 0, none⟩ 1 1 [strV s.word.2.body.1.name, .slice A3 n3 c3] e8 rfl (World.news_of_block (heap_alloc_new w2 _)) (by simp [Value.oneCell']) rfl (by omega) (by have := HP.out.cnt; unfold maxLen; omega) (by have := HP.out.cnt; omega) (by simp; omega) ?_;intro g5 cap w5 hown5 hgrow _;have hp := row_push hl hown hrow (a := s.word.2.body.1) (cs := [strV s.word.2.body.1.name, .slice A3 n3 c3]) ⟨A3, n3, c3, rfl, hm, hnm⟩ rfl hown5 hgrow (by omega) (fun _ _ _ ht x => x.tch ht (by decide));exact hK.out _ _ trivial ⟨w2, _, some ⟨g5, 0, none⟩, cap, ⟨A3, n3, c3, rfl, hm, hnm, hr, hg⟩, rfl, hp.1, hp.2.1, hp.2.2⟩
 intro o ho xf wq hT hr K hK;injection ho with ho;subst ho;obtain ⟨w2, v, A5, c5, ⟨A4, n4, c4, e4, hm, hnm, hrd, hg⟩, e9, hrow, ht, hb⟩ : TB B gr w1 (strV s.L.name) (.slice A n c) (.slice A' n' c') (.slice A'' n'' c'') s.word.2.body.2 s.word.2.body.1 n s.L.bodies 3 (xf 7) (xf 8) (xf 9) wq := hT;have dq12 : xf 12 = .pointer (some ⟨gr, 2, none⟩) := hr 12 (by decide);have RQ := hrd.other ht (by decide) hb;obtain ⟨_, hc2, _, _, _, hf2, _⟩ := RQ.cells;rw [e9] at hrow;have RQ' := Lib.hid RQ;have HROW := Lib.hid hrow;clear RQ hrow hrd hm hnm hr;(try dsimp only [fr4]); (try simp only [dq12, e9]);go_simp;refine hK.out _ _ ?_;go_wp2_with fail;go_end0;have t1 := H1.out.tchR hg;have t3 := RQ'.out.tchR (rg_set (rg_refl gr wq) 2 (.slice A5 (n + 1) c5));have hst := body_stp s.word.2;have hL : s.word.2.body.2.L = s.L := ((word_stp s).trans hst).2.2.2;have htk := word_took (s := s) (by rw [HW1.out]; decide);have eW : W = s.word.2.body.2.addB s.word.2.body.1 := by rw [← HW.out]; unfold PS.item; rw [if_pos HW1.out]
 subst eW;refine ⟨rfl, ⟨A5, n + 1, c5, A', n', c', A'', n'', c'', ⟨?_, ?_, ?_, ?_, ?_, ?_, ?_⟩⟩, ?_⟩
 ·show RdP B _ gr (strV s.word.2.body.2.L.name) _ _ _ _
  rw [hL];exact RQ'.out.put2 _ rfl rfl rfl
 ·show RowT _ _ _ _ _ _ _ (s.word.2.body.2.L.bodies ++ [s.word.2.body.1])
  rw [hL];exact HROW.out.tch t3 (by decide) (fun _ _ x => x.tch t3 (by decide))
 ·show RowT _ _ _ _ _ _ _ s.word.2.body.2.L.joints
  rw [hL];exact ((JT1.out.tch t1 (by decide) (fun _ _ x => x)).tch ht (by decide) (fun _ _ x => x)).tch t3 (by decide) (fun _ _ x => x)
 ·show RowT _ _ _ _ _ _ _ s.word.2.body.2.L.drivers
  rw [hL];exact ((DR1.out.tch t1 (by decide) (fun _ _ x => x)).tch ht (by decide) (fun _ _ x => x)).tch t3 (by decide) (fun _ _ x => x)
 ·show NmL s.word.2.body.2.L.name
  rw [hL];exact HP.out.nm
 ·show n + 1 + n' + n'' + s.word.2.body.2.toks.length ≤ _
  have h1 := HP.out.cnt;have h2 := hst.1;omega
 ·intro b hbm
  have hbm : b ∈ s.word.2.body.2.L.bodies ++ [s.word.2.body.1] := hbm;rw [hL] at hbm;rcases List.mem_append.1 hbm with hbm | hbm
  ·exact HP.out.pts b hbm
  simp at hbm;subst hbm;have h1 := body_pts s.word.2;have h2 := H1.out.len;omega
 exact ((BW1.out.trans (rg_bel hg (by have := H1.out.lt; have := H1.out.hB; omega) H1.out.hB)).trans hb).setCell (p := ⟨gr, 2, none⟩) H1.out.hB _
theorem rd_item_pin (B : Nat) (w : World) (gr : Nat) (s : PS) (A : Option Addr) (n c : Nat) (A' : Option Addr) (n' c' : Nat) (A'' : Option Addr) (n'' c'' : Nat) (h : RdL B w gr s A n c A' n' c' A'' n'' c'') (hw1 : s.word.1 = wPin) : Calls Tryz.prog 72 #[.pointer (some ⟨gr, 0, none⟩)] w (RetL_ B w gr s.item) := by
 have HW1 := Lib.hid hw1;have hb0 : (s.word.1 == [98, 111, 100, 121]) = false := by rw [hw1]; decide
 have hb1 : (s.word.1 == [112, 105, 110]) = true := by rw [hw1]; decide
 have hb2 : (s.word.1 == [115, 108, 105, 100, 101]) = false := by rw [hw1]; decide
 clear hw1;obtain ⟨i0, hi0, hz0, hz1, hz2⟩ := info_parts info_bd;obtain ⟨ij, hj0, hj1, hj2, hj3⟩ := info_parts info_jt;obtain ⟨id, hd0, hd1, hd2, hd3⟩ := info_parts info_dr;have HI := Lib.hid (And.intro hi0 (And.intro hz0 (And.intro hz1 hz2)));have HIJ := Lib.hid (And.intro hj0 (And.intro hj1 (And.intro hj2 hj3)));have HID := Lib.hid (And.intro hd0 (And.intro hd1 (And.intro hd2 hd3)));clear hi0 hz0 hz1 hz2 hj0 hj1 hj2 hj3 hd0 hd1 hd2 hd3;have HL1 := Lib.hid (word_stp s).2.2.2;have HL2 := Lib.hid ((word_stp s).trans (word_stp s.word.2)).2.2.2;have HP := Lib.hid h;obtain ⟨W, hW⟩ : ∃ W, s.item = W := ⟨_, rfl⟩;rw [hW];have HW := Lib.hid hW;clear h hW;go_enter Tryz.func72, Tryz.ntmps72;go_wp2_with fail;(with_reducible refine (rd_word B _ gr (strV s.L.name) (.slice A n c) (.slice A' n' c') (.slice A'' n'' c'') s HP.out.rd).mono ?_); rintro e w1 ⟨rfl, h1, hg1⟩;have H1 := Lib.hid h1;have hgl := h1.lt;have BW1 := Lib.hid (rg_bel hg1 (B := B) (by have := HP.out.rd.lt; have := HP.out.rd.hB; omega) HP.out.rd.hB);have t0 := HP.out.rd.tchR hg1;have BD1 := Lib.hid (HP.out.bd.tch t0 (by decide) (fun _ _ x => x.tch t0 (by decide)));have JT1 := Lib.hid (HP.out.jt.tch t0 (by decide) (fun _ _ x => x));have DR1 := Lib.hid (HP.out.dr.tch t0 (by decide) (fun _ _ x => x));obtain ⟨Ak, nk, ck, hbk, _⟩ := h1.blk;have HBk := Lib.hid hbk;clear h1 hg1 t0 hbk;have hn := toList_v s.word.1;go_wp2_with fail;(with_reducible refine (rd_word B _ gr (strV s.L.name) (.slice A n c) (.slice A' n' c') (.slice A'' n'' c'') s.word.2 H1.out).mono ?_); rintro e w2 ⟨rfl, h2, hg2⟩;have H2 := Lib.hid h2;have hlj := h2.lt;have hw2 := hg2.size;have HNM := Lib.hid (word_nm H1.out.txt);clear h2;go_wp2_with fail;(with_reducible refine (rd_full B _ gr (strV s.L.name) (.slice A' n' c') (.slice A'' n'' c'') A n c s.word.2.word.2 (H2.out.alloc _) (by rw [HL2.out]; exact H1.out.bodies BD1.out (rg_alloc hg2 _)) (by have := HP.out.cnt; omega) (by rw [HL2.out]; exact fun b hb => Nat.le_trans (HP.out.pts b hb) (by decide)) (-1)).mono ?_); rintro e w3 ⟨rfl, h3, hg3⟩;have hsa := full_stp s.word.2.word.2 (-1);generalize hfa : s.word.2.word.2.full (-1) = fa at h3 hsa ⊢;have HFA := Lib.hid hfa;have HSA := Lib.hid ((word_stp s.word.2).trans hsa);clear hfa hsa;have G3 := rg_trans (rg_alloc hg2 _) hg3;have p3 : Blk w3 w2.heap.size 116 #[strV s.word.2.word.1, .int .i64 0, .int .i64 0, .int .i64 0, .int .i64 0, .int .i64 0, .int .i64 0] := rg_blk hg3 (Blk.new _ _ _) (by omega);have hl3 := p3.lt;have H3 := Lib.hid h3;generalize hgj : w2.heap.size = gj at hlj hw2 p3 hl3 ⊢;have HNE := Lib.hid (own_lt JT1.out (g := gj) (by omega));clear hgj hg3 h3 hg2 H2;obtain ⟨cj0, cj1, cj2, cj3, cj4, cj5, cj6⟩ := p3.c7;obtain ⟨fj0, fj1, fj2, fj3, fj4, fj5, fj6⟩ := p3.f7;have P3 := Lib.hid p3;clear p3;go_wp2_with fail;clear cj0 cj1 cj2 cj3 cj4 cj5 cj6 fj0 fj1 fj2 fj3 fj4 fj5 fj6;have B3 := bel_set2 w3 hlj 2 3 (.int .i64 fa.1) (.int .i64 fa.2.1);have G3' := rg_bel1 G3 (bel_set2 w3 hw2 2 3 (.int .i64 fa.1) (.int .i64 fa.2.1));(with_reducible refine (rd_full B _ gr (strV s.L.name) (.slice A' n' c') (.slice A'' n'' c'') A n c fa.2.2 (H3.out.bel1 B3) (by rw [HSA.out.sameL, HL1.out]; exact H1.out.bodies BD1.out G3') (by have := HP.out.cnt; omega) (by rw [HSA.out.sameL, HL1.out]; exact fun b hb => Nat.le_trans (HP.out.pts b hb) (by decide)) (-1)).mono ?_); rintro e w4 ⟨rfl, h4, hg4⟩;have hsb := full_stp fa.2.2 (-1);generalize hfb : fa.2.2.full (-1) = fb at h4 hsb ⊢;have HFB := Lib.hid hfb;have HSB := Lib.hid (HSA.out.trans hsb);clear hfb hsb;have G4 := rg_trans G3' hg4;have p4 := rg_blk hg4 ((P3.out.set_ 2 (.int .i64 fa.1)).set_ 3 (.int .i64 fa.2.1)) (by omega);have p4 := p4;have H4 := Lib.hid h4;have hl4 := p4.lt;obtain ⟨cj0, cj1, cj2, cj3, cj4, cj5, cj6⟩ := p4.c7;obtain ⟨fj0, fj1, fj2, fj3, fj4, fj5, fj6⟩ := p4.f7;have P4 := Lib.hid p4;clear p4 h4 hg4 G3 G3' B3 P3 H3 hl3;go_wp2_with fail;clear cj0 cj1 cj2 cj3 cj4 cj5 cj6 fj0 fj1 fj2 fj3 fj4 fj5 fj6;(with_reducible refine (rd_sign B _ gr (strV s.L.name) (.slice A n c) (.slice A' n' c') (.slice A'' n'' c'') fb.2.2 (H4.out.bel1 (bel_set2 w4 hlj 4 5 (.int .i64 fb.1) (.int .i64 fb.2.1))) [59]).mono ?_); rintro e w6 ⟨rfl, h6, hg6⟩;have G6 := Lib.hid (rg_trans (rg_bel1 G4 (bel_set2 w4 hw2 4 5 (.int .i64 fb.1) (.int .i64 fb.2.1))) hg6);have p6 := rg_blk hg6 ((P4.out.set_ 4 (.int .i64 fb.1)).set_ 5 (.int .i64 fb.2.1)) (by omega);have H6 := Lib.hid h6;have P6 := Lib.hid p6;have HC := Lib.hid (show JtC w6 [strV s.word.2.word.1, .int .i64 0, .int .i64 fa.1, .int .i64 fa.2.1, .int .i64 fb.1, .int .i64 fb.2.1, .int .i64 0] ⟨s.word.2.word.1, 0, fa.1, fa.2.1, fb.1, fb.2.1, 0⟩ from ⟨rfl, HNM.out⟩);have JT6 := Lib.hid (JT1.out.tch (H1.out.tchR G6.out) (by decide) (fun _ _ x => x));clear h6 hg6 p6;go_wp2_with fail;change Code.wp _ _ _ (fr14 _ _ _ _ _ _ _ _ _ _ _ _ _ _ _ _ _ _ _ _ _ _ _ _ _ _ _ _ _ _ _ _ _ _ _ _ _ _ _ _ _ _ _ _ _ _ _ _ _ _ _ _ _ _ _ _ _ _ _ _ _ _ _ _ _ _ _ _ _ _ _ _ _ _ _ _ _ _ _ _ _ (fun _ => undef)) _;refine wp_region_stg (n := 12) (a := 7) (K := 2) (x0 := fun _ => undef) (R := fun ri => List.getD ((VE (.pointer (some ⟨gr, 0, none⟩))) :: (VE (.pointer (some ⟨gr, 0, none⟩))) :: (VE (.pointer (some ⟨gr, 0, none⟩))) :: (VE (.pointer (some ⟨gr, 1, none⟩))) :: (VE (.pointer (some ⟨gr, 3, none⟩))) :: (VE (.slice A' n' c')) :: (VE (.agg #[strV s.word.2.word.1, .int .i64 0, .int .i64 fa.1, .int .i64 fa.2.1, .int .i64 fb.1, .int .i64 fb.2.1, .int .i64 0])) :: VA :: VA :: (VE (.pointer (some ⟨gr, 0, none⟩))) :: (VE (.pointer (some ⟨gr, 1, none⟩))) :: (VE (.pointer (some ⟨gr, 3, none⟩))) :: []) ri VA) (T := fun k x wq => TJ_ 116 JtC 7 B gj w6 [strV s.word.2.word.1, .int .i64 0, .int .i64 fa.1, .int .i64 fa.2.1, .int .i64 fb.1, .int .i64 fb.2.1, .int .i64 0] ⟨s.word.2.word.1, 0, fa.1, fa.2.1, fb.1, fb.2.1, 0⟩ n' s.L.joints k (x 7) (x 8) wq) (by kernel_rfl) rfl ?_ ?_ ?_ (by decide) ?_ ?_ rfl ?_ ?_ ?_
 ·exact each_of ⟨(fun _ _ _ => rfl), (fun _ _ _ => rfl), (fun _ _ _ => rfl), (fun _ _ _ => rfl), (fun _ _ _ => rfl), (fun _ _ _ => rfl), (fun _ _ _ => rfl), (fun _ _ _ => rfl), (fun _ _ _ => rfl), (fun _ _ _ => rfl), (fun _ _ _ => rfl), (fun _ _ _ => rfl), (fun h => absurd h (by decide)), trivial⟩
 ·exact each_of (acyc_from _ 0 (by kernel_rfl))
 ·exact (fun j hj => reach_of (by kernel_rfl) hj)
 ·intro j o hj ho
  obtain rfl : j = 0 := by omega
  injection ho with ho;subst ho;exact ⟨⟨7, .data⟩, by simp, rfl, rfl⟩
 ·intro k x i v w hi h
  have e7 : upd x i v 7 = x 7 := upd_ne _ _ (by omega);have e8 : upd x i v 8 = x 8 := upd_ne _ _ (by omega);simp only [e7, e8];exact h
 ·refine each_of ⟨?_, ?_, ?_, ?_, ?_, ?_, ?_, (fun _ h => absurd h (by decide)), (fun _ h => absurd h (by decide)), ?_, ?_, ?_, (fun h => absurd h (by decide)), trivial⟩
  ·intro _ _ k xf wq hT hd K hK
   (try dsimp only [fr14]);go_simp;have hz := hK.out _ rfl;exact hz
  ·intro _ _ k xf wq hT hd K hK
   (try dsimp only [fr14]);go_simp;have hz := hK.out _ rfl;exact hz
  ·intro _ _ k xf wq hT hd K hK
   have dq1 : xf 1 = .pointer (some ⟨gr, 0, none⟩) := hd ⟨1, .data⟩ (by simp) rfl;(try dsimp only [fr14]); (try simp only [dq1]);go_simp;have hz := hK.out _ rfl;dsimp only [fr14] at hz;simp only [dq1] at hz;exact hz
  ·intro _ _ k xf wq hT hd K hK
   have dq2 : xf 2 = .pointer (some ⟨gr, 0, none⟩) := hd ⟨2, .data⟩ (by simp) rfl;(try dsimp only [fr14]); (try simp only [dq2]);go_simp;have hz := hK.out _ rfl;dsimp only [fr14] at hz;simp only [dq2] at hz;exact hz
  ·intro _ _ k xf wq hT hd K hK
   have dq3 : xf 3 = .pointer (some ⟨gr, 1, none⟩) := hd ⟨3, .data⟩ (by simp) rfl;(try dsimp only [fr14]); (try simp only [dq3]);go_simp;have hz := hK.out _ rfl;dsimp only [fr14] at hz;simp only [dq3] at hz;exact hz
  ·intro _ _ k xf wq hT hd K hK
   have dq4 : xf 4 = .pointer (some ⟨gr, 3, none⟩) := hd ⟨4, .data⟩ (by simp) rfl;have hc2 := (TJ_.rd (by decide) H6.out hT).cells;obtain ⟨_, hc2, hc3, hc4, _⟩ := hc2;(try dsimp only [fr14]); (try simp only [dq4]);go_simp;have hz := hK.out _ rfl;dsimp only [fr14] at hz;simp only [dq4] at hz;exact hz
  ·intro _ _ k xf wq hT hd K hK
   obtain ⟨hd0, hd1, hd2, hd3, hd4, hd5, hd6⟩ := (TJ_.blk P6.out hT).c7;(try dsimp only [fr14]);go_simp;have hz := hK.out _ rfl;exact hz
  ·intro _ _ k xf wq hT hd K hK
   have dq0 : xf 0 = .pointer (some ⟨gr, 0, none⟩) := hd ⟨0, .data⟩ (by simp) rfl;(try dsimp only [fr14]); (try simp only [dq0]);go_simp;have hz := hK.out _ rfl;dsimp only [fr14] at hz;simp only [dq0] at hz;exact hz
  ·intro _ _ k xf wq hT hd K hK
   have dq9 : xf 9 = .pointer (some ⟨gr, 0, none⟩) := hd ⟨9, .data⟩ (by simp) rfl;(try dsimp only [fr14]); (try simp only [dq9]);go_simp;have hz := hK.out _ rfl;dsimp only [fr14] at hz;simp only [dq9] at hz;exact hz
  intro _ _ k xf wq hT hd K hK;have dq10 : xf 10 = .pointer (some ⟨gr, 1, none⟩) := hd ⟨10, .data⟩ (by simp) rfl;(try dsimp only [fr14]); (try simp only [dq10]);go_simp;have hz := hK.out _ rfl;dsimp only [fr14] at hz;simp only [dq10] at hz;exact hz
 ·intro k o hk ho
  obtain rfl | rfl := (show k = 0 ∨ k = 1 by omega)
  ·injection ho with ho
   subst ho;intro xf wq hT hd K hK;have hT : wq = w6.drew := hT;subst hT;have dq6 : xf 6 = .agg #[strV s.word.2.word.1, .int .i64 0, .int .i64 fa.1, .int .i64 fa.2.1, .int .i64 fb.1, .int .i64 fb.2.1, .int .i64 0] := hd ⟨6, .data⟩ (by simp) rfl;(try dsimp only [fr14]); (try simp only [dq6]);go_simp;have hz := hK.out (.slice (some ⟨w6.heap.size, 0, none⟩) 1 1) (w6.drew.alloc (.cells #[strV s.word.2.word.1, .int .i64 0, .int .i64 fa.1, .int .i64 fa.2.1, .int .i64 fb.1, .int .i64 fb.2.1, .int .i64 0] 116)) trivial ⟨rfl, rfl⟩;dsimp only [fr14] at hz;simp only [dq6] at hz;exact hz
  injection ho with ho;subst ho;intro xf wq hT hd K hK;obtain ⟨e7, ew⟩ : TJ_ 116 JtC 7 B gj w6 [strV s.word.2.word.1, .int .i64 0, .int .i64 fa.1, .int .i64 fa.2.1, .int .i64 fb.1, .int .i64 fb.2.1, .int .i64 0] ⟨s.word.2.word.1, 0, fa.1, fa.2.1, fb.1, fb.2.1, 0⟩ n' s.L.joints 1 (xf 7) (xf 8) wq := hT;subst ew;have dq5 : xf 5 = .slice A' n' c' := hd ⟨5, .data⟩ (by simp) rfl;obtain ⟨hl, xs, hown, hrow⟩ := JT6.out;have hown : OwJ noW w6.drew B 116 7 (.slice A' n' c') n' xs := hown;have hrow : RowC JtC 7 w6.drew s.L.joints xs := hrow;have hlt := H6.out.lt;have hBg := H6.out.hB;have hds : w6.drew.heap.size = w6.heap.size := rfl;rw [if_pos (show Region.wanted _ _ = true from rfl)];refine wp_append_J _ noW _ _ _ rfl B 116 ij (.agg #[.string ⟨#[]⟩, .int .i64 0, .int .i64 0, .int .i64 0, .int .i64 0, .int .i64 0, .int .i64 0]) 7 64 Tryz.underlying33 HIJ.out.1 HIJ.out.2.1 HIJ.out.2.2.1 HIJ.out.2.2.2 rfl (by omega) rfl (.slice A' n' c') n' xs dq5 (hown.belw ((Below.refl _ _).alloc (Nat.le_refl _) _)) ⟨w6.heap.size, 0, none⟩ 1 1 [strV s.word.2.word.1, .int .i64 0, .int .i64 fa.1, .int .i64 fa.2.1, .int .i64 fb.1, .int .i64 fb.2.1, .int .i64 0] e7 rfl (World.news_of_block (heap_alloc_new w6.drew _)) (by simp [Value.oneCell']) rfl (by omega) (by have := HP.out.cnt; unfold maxLen; omega) (by have := HP.out.cnt; omega) (by simp; omega) ?_;intro g5 cap w5 hown5 hgrow _;have hp := row_push hl hown hrow (a := ⟨s.word.2.word.1, 0, fa.1, fa.2.1, fb.1, fb.2.1, 0⟩) (cs := [strV s.word.2.word.1, .int .i64 0, .int .i64 fa.1, .int .i64 fa.2.1, .int .i64 fb.1, .int .i64 fb.2.1, .int .i64 0]) (show JtC w6.drew _ (⟨s.word.2.word.1, 0, fa.1, fa.2.1, fb.1, fb.2.1, 0⟩ : JointL) from HC.out) rfl hown5 hgrow (by omega) (fun _ _ _ _ x => x);exact hK.out _ _ trivial ⟨some ⟨g5, 0, none⟩, cap, rfl, hp.1, (P6.out.drew.alloc _).grown hgrow HNE.out, hp.2.1, ((Below.refl B w6).drew).trans hp.2.2⟩
 intro o ho xf wq hT hr K hK;injection ho with ho;subst ho;obtain ⟨A5, c5, e8, hrow, _, ht, hb⟩ : TJ_ 116 JtC 7 B gj w6 [strV s.word.2.word.1, .int .i64 0, .int .i64 fa.1, .int .i64 fa.2.1, .int .i64 fb.1, .int .i64 fb.2.1, .int .i64 0] ⟨s.word.2.word.1, 0, fa.1, fa.2.1, fb.1, fb.2.1, 0⟩ n' s.L.joints 2 (xf 7) (xf 8) wq := hT;have dq11 : xf 11 = .pointer (some ⟨gr, 3, none⟩) := hr 11 (by decide);have RQ := H6.out.other ht (by decide) hb;obtain ⟨_, hc2, hc3, hc4, _, hf2, hf3, hf4⟩ := RQ.cells;rw [e8] at hrow;have RQ' := Lib.hid RQ;have HROW := Lib.hid hrow;clear RQ hrow hr;(try dsimp only [fr14]); (try simp only [dq11, e8]);go_simp;refine hK.out _ _ ?_;go_wp2_with fail;go_end0;have t1 := H1.out.tchR G6.out;have t3 := RQ'.out.tchR (rg_set (rg_refl gr wq) 3 (.slice A5 (n' + 1) c5));have hst := HSB.out.trans (expect_stp fb.2.2 2 [59]);have hL : (PS.expect fb.2.2 2 [59]).L = s.L := hst.2.2.2.trans HL1.out;have htk := word_took (s := s) (by rw [HW1.out]; decide);have hst1 := hst.1
 have eW : W = PS.addJ (PS.expect fb.2.2 2 [59]) ⟨s.word.2.word.1, 0, fa.1, fa.2.1, fb.1, fb.2.1, 0⟩ := by
  rw [← HW.out]; unfold PS.item; rw [if_neg (by rw [HW1.out]; decide), if_pos HW1.out]; unfold PS.joint;simp only [HFA.out, HFB.out, Bool.false_eq_true, if_false]
 subst eW;refine ⟨rfl, ⟨A, n, c, A5, n' + 1, c5, A'', n'', c'', ⟨?_, ?_, ?_, ?_, ?_, ?_, ?_⟩⟩, ?_⟩
 ·show RdP B _ gr (strV (PS.expect fb.2.2 2 [59]).L.name) _ _ _ _
  rw [hL];exact RQ'.out.put3 _ rfl rfl rfl
 ·show RowT _ _ _ _ _ _ _ (PS.expect fb.2.2 2 [59]).L.bodies
  rw [hL];exact ((BD1.out.tch t1 (by decide) (fun _ _ x => x.tch t1 (by decide))).tch ht (by decide) (fun _ _ x => x.tch ht (by decide))).tch t3 (by decide) (fun _ _ x => x.tch t3 (by decide))
 ·show RowT _ _ _ _ _ _ _ ((PS.expect fb.2.2 2 [59]).L.joints ++ [⟨s.word.2.word.1, 0, fa.1, fa.2.1, fb.1, fb.2.1, 0⟩])
  rw [hL];exact HROW.out.tch t3 (by decide) (fun _ _ x => x)
 ·show RowT _ _ _ _ _ _ _ (PS.expect fb.2.2 2 [59]).L.drivers
  rw [hL];exact ((DR1.out.tch t1 (by decide) (fun _ _ x => x)).tch ht (by decide) (fun _ _ x => x)).tch t3 (by decide) (fun _ _ x => x)
 ·show NmL (PS.expect fb.2.2 2 [59]).L.name
  rw [hL];exact HP.out.nm
 ·show n + (n' + 1) + n'' + (PS.expect fb.2.2 2 [59]).toks.length ≤ _
  have h1 := HP.out.cnt;omega
 ·intro b hbm
  have hbm : b ∈ (PS.expect fb.2.2 2 [59]).L.bodies := hbm;rw [hL] at hbm;exact HP.out.pts b hbm
 exact ((BW1.out.trans (rg_bel G6.out (by have := H1.out.lt; have := H1.out.hB; omega) H1.out.hB)).trans hb).setCell (p := ⟨gr, 3, none⟩) H1.out.hB _
theorem rd_item_slide (B : Nat) (w : World) (gr : Nat) (s : PS) (A : Option Addr) (n c : Nat) (A' : Option Addr) (n' c' : Nat) (A'' : Option Addr) (n'' c'' : Nat) (h : RdL B w gr s A n c A' n' c' A'' n'' c'') (hw1 : s.word.1 = wSlide) : Calls Tryz.prog 72 #[.pointer (some ⟨gr, 0, none⟩)] w (RetL_ B w gr s.item) := by
 have HW1 := Lib.hid hw1;have hb0 : (s.word.1 == [98, 111, 100, 121]) = false := by rw [hw1]; decide
 have hb1 : (s.word.1 == [112, 105, 110]) = false := by rw [hw1]; decide
 have hb2 : (s.word.1 == [115, 108, 105, 100, 101]) = true := by rw [hw1]; decide
 clear hw1;obtain ⟨i0, hi0, hz0, hz1, hz2⟩ := info_parts info_bd;obtain ⟨ij, hj0, hj1, hj2, hj3⟩ := info_parts info_jt;obtain ⟨id, hd0, hd1, hd2, hd3⟩ := info_parts info_dr;have HI := Lib.hid (And.intro hi0 (And.intro hz0 (And.intro hz1 hz2)));have HIJ := Lib.hid (And.intro hj0 (And.intro hj1 (And.intro hj2 hj3)));have HID := Lib.hid (And.intro hd0 (And.intro hd1 (And.intro hd2 hd3)));clear hi0 hz0 hz1 hz2 hj0 hj1 hj2 hj3 hd0 hd1 hd2 hd3;have HL1 := Lib.hid (word_stp s).2.2.2;have HL2 := Lib.hid ((word_stp s).trans (word_stp s.word.2)).2.2.2;have HP := Lib.hid h;obtain ⟨W, hW⟩ : ∃ W, s.item = W := ⟨_, rfl⟩;rw [hW];have HW := Lib.hid hW;clear h hW;go_enter Tryz.func72, Tryz.ntmps72;go_wp2_with fail;(with_reducible refine (rd_word B _ gr (strV s.L.name) (.slice A n c) (.slice A' n' c') (.slice A'' n'' c'') s HP.out.rd).mono ?_); rintro e w1 ⟨rfl, h1, hg1⟩;have H1 := Lib.hid h1;have hgl := h1.lt;have BW1 := Lib.hid (rg_bel hg1 (B := B) (by have := HP.out.rd.lt; have := HP.out.rd.hB; omega) HP.out.rd.hB);have t0 := HP.out.rd.tchR hg1;have BD1 := Lib.hid (HP.out.bd.tch t0 (by decide) (fun _ _ x => x.tch t0 (by decide)));have JT1 := Lib.hid (HP.out.jt.tch t0 (by decide) (fun _ _ x => x));have DR1 := Lib.hid (HP.out.dr.tch t0 (by decide) (fun _ _ x => x));obtain ⟨Ak, nk, ck, hbk, _⟩ := h1.blk;have HBk := Lib.hid hbk;clear h1 hg1 t0 hbk;have hn := toList_v s.word.1;go_wp2_with fail;(with_reducible refine (rd_word B _ gr (strV s.L.name) (.slice A n c) (.slice A' n' c') (.slice A'' n'' c'') s.word.2 H1.out).mono ?_); rintro e w2 ⟨rfl, h2, hg2⟩;have H2 := Lib.hid h2;have hlj := h2.lt;have hw2 := hg2.size;have HNM := Lib.hid (word_nm H1.out.txt);clear h2;go_wp2_with fail;(with_reducible refine (rd_full B _ gr (strV s.L.name) (.slice A' n' c') (.slice A'' n'' c'') A n c s.word.2.word.2 (H2.out.alloc _) (by rw [HL2.out]; exact H1.out.bodies BD1.out (rg_alloc hg2 _)) (by have := HP.out.cnt; omega) (by rw [HL2.out]; exact fun b hb => Nat.le_trans (HP.out.pts b hb) (by decide)) (-1)).mono ?_); rintro e w3 ⟨rfl, h3, hg3⟩;have hsa := full_stp s.word.2.word.2 (-1);generalize hfa : s.word.2.word.2.full (-1) = fa at h3 hsa ⊢;have HFA := Lib.hid hfa;have HSA := Lib.hid ((word_stp s.word.2).trans hsa);clear hfa hsa;have G3 := rg_trans (rg_alloc hg2 _) hg3;have p3 : Blk w3 w2.heap.size 116 #[strV s.word.2.word.1, .int .i64 0, .int .i64 0, .int .i64 0, .int .i64 0, .int .i64 0, .int .i64 0] := rg_blk hg3 (Blk.new _ _ _) (by omega);have hl3 := p3.lt;have H3 := Lib.hid h3;generalize hgj : w2.heap.size = gj at hlj hw2 p3 hl3 ⊢;have HNE := Lib.hid (own_lt JT1.out (g := gj) (by omega));clear hgj hg3 h3 hg2 H2;obtain ⟨cj0, cj1, cj2, cj3, cj4, cj5, cj6⟩ := p3.c7;obtain ⟨fj0, fj1, fj2, fj3, fj4, fj5, fj6⟩ := p3.f7;have P3 := Lib.hid p3;clear p3;go_wp2_with fail;clear cj0 cj1 cj2 cj3 cj4 cj5 cj6 fj0 fj1 fj2 fj3 fj4 fj5 fj6;have B3 := bel_set2 w3 hlj 2 3 (.int .i64 fa.1) (.int .i64 fa.2.1);have G3' := rg_bel1 G3 (bel_set2 w3 hw2 2 3 (.int .i64 fa.1) (.int .i64 fa.2.1));(with_reducible refine (rd_full B _ gr (strV s.L.name) (.slice A' n' c') (.slice A'' n'' c'') A n c fa.2.2 (H3.out.bel1 B3) (by rw [HSA.out.sameL, HL1.out]; exact H1.out.bodies BD1.out G3') (by have := HP.out.cnt; omega) (by rw [HSA.out.sameL, HL1.out]; exact fun b hb => Nat.le_trans (HP.out.pts b hb) (by decide)) (-1)).mono ?_); rintro e w4 ⟨rfl, h4, hg4⟩;have hsb := full_stp fa.2.2 (-1);generalize hfb : fa.2.2.full (-1) = fb at h4 hsb ⊢;have HFB := Lib.hid hfb;have HSB := Lib.hid (HSA.out.trans hsb);clear hfb hsb;have G4 := rg_trans G3' hg4;have p4 := rg_blk hg4 ((P3.out.set_ 2 (.int .i64 fa.1)).set_ 3 (.int .i64 fa.2.1)) (by omega);have p4 := p4;have H4 := Lib.hid h4;have hl4 := p4.lt;obtain ⟨cj0, cj1, cj2, cj3, cj4, cj5, cj6⟩ := p4.c7;obtain ⟨fj0, fj1, fj2, fj3, fj4, fj5, fj6⟩ := p4.f7;have P4 := Lib.hid p4;clear p4 h4 hg4 G3 G3' B3 P3 H3 hl3;go_wp2_with fail;clear cj0 cj1 cj2 cj3 cj4 cj5 cj6 fj0 fj1 fj2 fj3 fj4 fj5 fj6;have B4 := (bel_set2 w4 hlj 4 5 (.int .i64 fb.1) (.int .i64 fb.2.1)).setCell (p := ⟨gj, 1, none⟩) hlj (.int .i64 1);have G4' := rg_bel1 G4 ((bel_set2 w4 hw2 4 5 (.int .i64 fb.1) (.int .i64 fb.2.1)).setCell (p := ⟨gj, 1, none⟩) hw2 (.int .i64 1));have Q4 := Lib.hid (((P4.out.set_ 4 (.int .i64 fb.1)).set_ 5 (.int .i64 fb.2.1)).set_ 1 (.int .i64 1));(with_reducible refine (rd_full B _ gr (strV s.L.name) (.slice A' n' c') (.slice A'' n'' c'') A n c fb.2.2 (H4.out.bel1 B4) (by rw [HSB.out.sameL, HL1.out]; exact H1.out.bodies BD1.out G4') (by have := HP.out.cnt; omega) (by rw [HSB.out.sameL, HL1.out]; exact fun b hb => Nat.le_trans (HP.out.pts b hb) (by decide)) fb.1).mono ?_); rintro e w5 ⟨rfl, h5, hg5⟩;have hsc := full_stp fb.2.2 fb.1;generalize hft : fb.2.2.full fb.1 = ft at h5 hsc ⊢;have HFT := Lib.hid hft;have HSC := Lib.hid (HSB.out.trans hsc);clear hft hsc;have G5 := rg_trans G4' hg5;have p5 := rg_blk hg5 Q4.out (by omega);have H5 := Lib.hid h5;have hl5 := p5.lt;obtain ⟨cj0, cj1, cj2, cj3, cj4, cj5, cj6⟩ := p5.c7;obtain ⟨fj0, fj1, fj2, fj3, fj4, fj5, fj6⟩ := p5.f7;have P5 := Lib.hid p5;clear p5 h5 hg5 G4 G4' B4 P4 H4 Q4 hl4;go_wp2_with fail;clear cj0 cj1 cj2 cj3 cj4 cj5 cj6 fj0 fj1 fj2 fj3 fj4 fj5 fj6;(with_reducible refine (rd_sign B _ gr (strV s.L.name) (.slice A n c) (.slice A' n' c') (.slice A'' n'' c'') ft.2.2 (H5.out.bel1 ((Below.refl _ w5).setCell (p := ⟨gj, 6, none⟩) hlj (.int .i64 ft.2.1))) [59]).mono ?_); rintro e w6 ⟨rfl, h6, hg6⟩;have G6 := Lib.hid (rg_trans (rg_bel1 G5 ((Below.refl _ w5).setCell (p := ⟨gj, 6, none⟩) hw2 (.int .i64 ft.2.1))) hg6);have p6 := rg_blk hg6 (P5.out.set_ 6 (.int .i64 ft.2.1)) (by omega);have H6 := Lib.hid h6;have P6 := Lib.hid p6;have HC := Lib.hid (show JtC w6 [strV s.word.2.word.1, .int .i64 1, .int .i64 fa.1, .int .i64 fa.2.1, .int .i64 fb.1, .int .i64 fb.2.1, .int .i64 ft.2.1] ⟨s.word.2.word.1, 1, fa.1, fa.2.1, fb.1, fb.2.1, ft.2.1⟩ from ⟨rfl, HNM.out⟩);have JT6 := Lib.hid (JT1.out.tch (H1.out.tchR G6.out) (by decide) (fun _ _ x => x));clear h6 hg6 p6;go_wp2_with fail;change Code.wp _ _ _ (fr14 _ _ _ _ _ _ _ _ _ _ _ _ _ _ _ _ _ _ _ _ _ _ _ _ _ _ _ _ _ _ _ _ _ _ _ _ _ _ _ _ _ _ _ _ _ _ _ _ _ _ _ _ _ _ _ _ _ _ _ _ _ _ _ _ _ _ _ _ _ _ _ _ _ _ _ _ _ _ _ _ _ (fun _ => undef)) _;refine wp_region_stg (n := 12) (a := 7) (K := 2) (x0 := fun _ => undef) (R := fun ri => List.getD ((VE (.pointer (some ⟨gr, 0, none⟩))) :: (VE (.pointer (some ⟨gr, 0, none⟩))) :: (VE (.pointer (some ⟨gr, 0, none⟩))) :: (VE (.pointer (some ⟨gr, 1, none⟩))) :: (VE (.pointer (some ⟨gr, 3, none⟩))) :: (VE (.slice A' n' c')) :: (VE (.agg #[strV s.word.2.word.1, .int .i64 1, .int .i64 fa.1, .int .i64 fa.2.1, .int .i64 fb.1, .int .i64 fb.2.1, .int .i64 ft.2.1])) :: VA :: VA :: (VE (.pointer (some ⟨gr, 0, none⟩))) :: (VE (.pointer (some ⟨gr, 1, none⟩))) :: (VE (.pointer (some ⟨gr, 3, none⟩))) :: []) ri VA) (T := fun k x wq => TJ_ 116 JtC 7 B gj w6 [strV s.word.2.word.1, .int .i64 1, .int .i64 fa.1, .int .i64 fa.2.1, .int .i64 fb.1, .int .i64 fb.2.1, .int .i64 ft.2.1] ⟨s.word.2.word.1, 1, fa.1, fa.2.1, fb.1, fb.2.1, ft.2.1⟩ n' s.L.joints k (x 7) (x 8) wq) (by kernel_rfl) rfl ?_ ?_ ?_ (by decide) ?_ ?_ rfl ?_ ?_ ?_
 ·exact each_of ⟨(fun _ _ _ => rfl), (fun _ _ _ => rfl), (fun _ _ _ => rfl), (fun _ _ _ => rfl), (fun _ _ _ => rfl), (fun _ _ _ => rfl), (fun _ _ _ => rfl), (fun _ _ _ => rfl), (fun _ _ _ => rfl), (fun _ _ _ => rfl), (fun _ _ _ => rfl), (fun _ _ _ => rfl), (fun h => absurd h (by decide)), trivial⟩
 ·exact each_of (acyc_from _ 0 (by kernel_rfl))
 ·exact (fun j hj => reach_of (by kernel_rfl) hj)
 ·intro j o hj ho
  obtain rfl : j = 0 := by omega
  injection ho with ho;subst ho;exact ⟨⟨7, .data⟩, by simp, rfl, rfl⟩
 ·intro k x i v w hi h
  have e7 : upd x i v 7 = x 7 := upd_ne _ _ (by omega);have e8 : upd x i v 8 = x 8 := upd_ne _ _ (by omega);simp only [e7, e8];exact h
 ·refine each_of ⟨?_, ?_, ?_, ?_, ?_, ?_, ?_, (fun _ h => absurd h (by decide)), (fun _ h => absurd h (by decide)), ?_, ?_, ?_, (fun h => absurd h (by decide)), trivial⟩
  ·intro _ _ k xf wq hT hd K hK
   (try dsimp only [fr14]);go_simp;have hz := hK.out _ rfl;exact hz
  ·intro _ _ k xf wq hT hd K hK
   (try dsimp only [fr14]);go_simp;have hz := hK.out _ rfl;exact hz
  ·intro _ _ k xf wq hT hd K hK
   have dq1 : xf 1 = .pointer (some ⟨gr, 0, none⟩) := hd ⟨1, .data⟩ (by simp) rfl;(try dsimp only [fr14]); (try simp only [dq1]);go_simp;have hz := hK.out _ rfl;dsimp only [fr14] at hz;simp only [dq1] at hz;exact hz
  ·intro _ _ k xf wq hT hd K hK
   have dq2 : xf 2 = .pointer (some ⟨gr, 0, none⟩) := hd ⟨2, .data⟩ (by simp) rfl;(try dsimp only [fr14]); (try simp only [dq2]);go_simp;have hz := hK.out _ rfl;dsimp only [fr14] at hz;simp only [dq2] at hz;exact hz
  ·intro _ _ k xf wq hT hd K hK
   have dq3 : xf 3 = .pointer (some ⟨gr, 1, none⟩) := hd ⟨3, .data⟩ (by simp) rfl;(try dsimp only [fr14]); (try simp only [dq3]);go_simp;have hz := hK.out _ rfl;dsimp only [fr14] at hz;simp only [dq3] at hz;exact hz
  ·intro _ _ k xf wq hT hd K hK
   have dq4 : xf 4 = .pointer (some ⟨gr, 3, none⟩) := hd ⟨4, .data⟩ (by simp) rfl;have hc2 := (TJ_.rd (by decide) H6.out hT).cells;obtain ⟨_, hc2, hc3, hc4, _⟩ := hc2;(try dsimp only [fr14]); (try simp only [dq4]);go_simp;have hz := hK.out _ rfl;dsimp only [fr14] at hz;simp only [dq4] at hz;exact hz
  ·intro _ _ k xf wq hT hd K hK
   obtain ⟨hd0, hd1, hd2, hd3, hd4, hd5, hd6⟩ := (TJ_.blk P6.out hT).c7;(try dsimp only [fr14]);go_simp;have hz := hK.out _ rfl;exact hz
  ·intro _ _ k xf wq hT hd K hK
   have dq0 : xf 0 = .pointer (some ⟨gr, 0, none⟩) := hd ⟨0, .data⟩ (by simp) rfl;(try dsimp only [fr14]); (try simp only [dq0]);go_simp;have hz := hK.out _ rfl;dsimp only [fr14] at hz;simp only [dq0] at hz;exact hz
  ·intro _ _ k xf wq hT hd K hK
   have dq9 : xf 9 = .pointer (some ⟨gr, 0, none⟩) := hd ⟨9, .data⟩ (by simp) rfl;(try dsimp only [fr14]); (try simp only [dq9]);go_simp;have hz := hK.out _ rfl;dsimp only [fr14] at hz;simp only [dq9] at hz;exact hz
  intro _ _ k xf wq hT hd K hK;have dq10 : xf 10 = .pointer (some ⟨gr, 1, none⟩) := hd ⟨10, .data⟩ (by simp) rfl;(try dsimp only [fr14]); (try simp only [dq10]);go_simp;have hz := hK.out _ rfl;dsimp only [fr14] at hz;simp only [dq10] at hz;exact hz
 ·intro k o hk ho
  obtain rfl | rfl := (show k = 0 ∨ k = 1 by omega)
  ·injection ho with ho
   subst ho;intro xf wq hT hd K hK;have hT : wq = w6.drew := hT;subst hT;have dq6 : xf 6 = .agg #[strV s.word.2.word.1, .int .i64 1, .int .i64 fa.1, .int .i64 fa.2.1, .int .i64 fb.1, .int .i64 fb.2.1, .int .i64 ft.2.1] := hd ⟨6, .data⟩ (by simp) rfl;(try dsimp only [fr14]); (try simp only [dq6]);go_simp;have hz := hK.out (.slice (some ⟨w6.heap.size, 0, none⟩) 1 1) (w6.drew.alloc (.cells #[strV s.word.2.word.1, .int .i64 1, .int .i64 fa.1, .int .i64 fa.2.1, .int .i64 fb.1, .int .i64 fb.2.1, .int .i64 ft.2.1] 116)) trivial ⟨rfl, rfl⟩;dsimp only [fr14] at hz;simp only [dq6] at hz;exact hz
  injection ho with ho;subst ho;intro xf wq hT hd K hK;obtain ⟨e7, ew⟩ : TJ_ 116 JtC 7 B gj w6 [strV s.word.2.word.1, .int .i64 1, .int .i64 fa.1, .int .i64 fa.2.1, .int .i64 fb.1, .int .i64 fb.2.1, .int .i64 ft.2.1] ⟨s.word.2.word.1, 1, fa.1, fa.2.1, fb.1, fb.2.1, ft.2.1⟩ n' s.L.joints 1 (xf 7) (xf 8) wq := hT;subst ew;have dq5 : xf 5 = .slice A' n' c' := hd ⟨5, .data⟩ (by simp) rfl;obtain ⟨hl, xs, hown, hrow⟩ := JT6.out;have hown : OwJ noW w6.drew B 116 7 (.slice A' n' c') n' xs := hown;have hrow : RowC JtC 7 w6.drew s.L.joints xs := hrow;have hlt := H6.out.lt;have hBg := H6.out.hB;have hds : w6.drew.heap.size = w6.heap.size := rfl;rw [if_pos (show Region.wanted _ _ = true from rfl)];refine wp_append_J _ noW _ _ _ rfl B 116 ij (.agg #[.string ⟨#[]⟩, .int .i64 0, .int .i64 0, .int .i64 0, .int .i64 0, .int .i64 0, .int .i64 0]) 7 64 Tryz.underlying33 HIJ.out.1 HIJ.out.2.1 HIJ.out.2.2.1 HIJ.out.2.2.2 rfl (by omega) rfl (.slice A' n' c') n' xs dq5 (hown.belw ((Below.refl _ _).alloc (Nat.le_refl _) _)) ⟨w6.heap.size, 0, none⟩ 1 1 [strV s.word.2.word.1, .int .i64 1, .int .i64 fa.1, .int .i64 fa.2.1, .int .i64 fb.1, .int .i64 fb.2.1, .int .i64 ft.2.1] e7 rfl (World.news_of_block (heap_alloc_new w6.drew _)) (by simp [Value.oneCell']) rfl (by omega) (by have := HP.out.cnt; unfold maxLen; omega) (by have := HP.out.cnt; omega) (by simp; omega) ?_;intro g5 cap w5 hown5 hgrow _;have hp := row_push hl hown hrow (a := ⟨s.word.2.word.1, 1, fa.1, fa.2.1, fb.1, fb.2.1, ft.2.1⟩) (cs := [strV s.word.2.word.1, .int .i64 1, .int .i64 fa.1, .int .i64 fa.2.1, .int .i64 fb.1, .int .i64 fb.2.1, .int .i64 ft.2.1]) (show JtC w6.drew _ (⟨s.word.2.word.1, 1, fa.1, fa.2.1, fb.1, fb.2.1, ft.2.1⟩ : JointL) from HC.out) rfl hown5 hgrow (by omega) (fun _ _ _ _ x => x);exact hK.out _ _ trivial ⟨some ⟨g5, 0, none⟩, cap, rfl, hp.1, (P6.out.drew.alloc _).grown hgrow HNE.out, hp.2.1, ((Below.refl B w6).drew).trans hp.2.2⟩
 intro o ho xf wq hT hr K hK;injection ho with ho;subst ho;obtain ⟨A5, c5, e8, hrow, _, ht, hb⟩ : TJ_ 116 JtC 7 B gj w6 [strV s.word.2.word.1, .int .i64 1, .int .i64 fa.1, .int .i64 fa.2.1, .int .i64 fb.1, .int .i64 fb.2.1, .int .i64 ft.2.1] ⟨s.word.2.word.1, 1, fa.1, fa.2.1, fb.1, fb.2.1, ft.2.1⟩ n' s.L.joints 2 (xf 7) (xf 8) wq := hT;have dq11 : xf 11 = .pointer (some ⟨gr, 3, none⟩) := hr 11 (by decide);have RQ := H6.out.other ht (by decide) hb;obtain ⟨_, hc2, hc3, hc4, _, hf2, hf3, hf4⟩ := RQ.cells;rw [e8] at hrow;have RQ' := Lib.hid RQ;have HROW := Lib.hid hrow;clear RQ hrow hr;(try dsimp only [fr14]); (try simp only [dq11, e8]);go_simp;refine hK.out _ _ ?_;go_wp2_with fail;go_end0;have t1 := H1.out.tchR G6.out;have t3 := RQ'.out.tchR (rg_set (rg_refl gr wq) 3 (.slice A5 (n' + 1) c5));have hst := HSC.out.trans (expect_stp ft.2.2 2 [59]);have hL : (PS.expect ft.2.2 2 [59]).L = s.L := hst.2.2.2.trans HL1.out;have htk := word_took (s := s) (by rw [HW1.out]; decide);have hst1 := hst.1
 have eW : W = PS.addJ (PS.expect ft.2.2 2 [59]) ⟨s.word.2.word.1, 1, fa.1, fa.2.1, fb.1, fb.2.1, ft.2.1⟩ := by
  rw [← HW.out]; unfold PS.item; rw [if_neg (by rw [HW1.out]; decide), if_neg (by rw [HW1.out]; decide), if_pos HW1.out]; unfold PS.joint;simp only [HFA.out, HFB.out, HFT.out, if_true]
 subst eW;refine ⟨rfl, ⟨A, n, c, A5, n' + 1, c5, A'', n'', c'', ⟨?_, ?_, ?_, ?_, ?_, ?_, ?_⟩⟩, ?_⟩
 ·show RdP B _ gr (strV (PS.expect ft.2.2 2 [59]).L.name) _ _ _ _
  rw [hL];exact RQ'.out.put3 _ rfl rfl rfl
 ·show RowT _ _ _ _ _ _ _ (PS.expect ft.2.2 2 [59]).L.bodies
  rw [hL];exact ((BD1.out.tch t1 (by decide) (fun _ _ x => x.tch t1 (by decide))).tch ht (by decide) (fun _ _ x => x.tch ht (by decide))).tch t3 (by decide) (fun _ _ x => x.tch t3 (by decide))
 ·show RowT _ _ _ _ _ _ _ ((PS.expect ft.2.2 2 [59]).L.joints ++ [⟨s.word.2.word.1, 1, fa.1, fa.2.1, fb.1, fb.2.1, ft.2.1⟩])
  rw [hL];exact HROW.out.tch t3 (by decide) (fun _ _ x => x)
 ·show RowT _ _ _ _ _ _ _ (PS.expect ft.2.2 2 [59]).L.drivers
  rw [hL];exact ((DR1.out.tch t1 (by decide) (fun _ _ x => x)).tch ht (by decide) (fun _ _ x => x)).tch t3 (by decide) (fun _ _ x => x)
 ·show NmL (PS.expect ft.2.2 2 [59]).L.name
  rw [hL];exact HP.out.nm
 ·show n + (n' + 1) + n'' + (PS.expect ft.2.2 2 [59]).toks.length ≤ _
  have h1 := HP.out.cnt;omega
 ·intro b hbm
  have hbm : b ∈ (PS.expect ft.2.2 2 [59]).L.bodies := hbm;rw [hL] at hbm;exact HP.out.pts b hbm
 exact ((BW1.out.trans (rg_bel G6.out (by have := H1.out.lt; have := H1.out.hB; omega) H1.out.hB)).trans hb).setCell (p := ⟨gr, 3, none⟩) H1.out.hB _
theorem rd_item_driver (B : Nat) (w : World) (gr : Nat) (s : PS) (A : Option Addr) (n c : Nat) (A' : Option Addr) (n' c' : Nat) (A'' : Option Addr) (n'' c'' : Nat) (h : RdL B w gr s A n c A' n' c' A'' n'' c'') (hw1 : s.word.1 = wDriver) : Calls Tryz.prog 72 #[.pointer (some ⟨gr, 0, none⟩)] w (RetL_ B w gr s.item) := by
 have HW1 := Lib.hid hw1;have hb0 : (s.word.1 == [98, 111, 100, 121]) = false := by rw [hw1]; decide
 have hb1 : (s.word.1 == [112, 105, 110]) = false := by rw [hw1]; decide
 have hb2 : (s.word.1 == [115, 108, 105, 100, 101]) = false := by rw [hw1]; decide
 have hb3 : (s.word.1 == [100, 114, 105, 118, 101, 114]) = true := by rw [hw1]; decide
 clear hw1;obtain ⟨i0, hi0, hz0, hz1, hz2⟩ := info_parts info_bd;obtain ⟨ij, hj0, hj1, hj2, hj3⟩ := info_parts info_jt;obtain ⟨id, hd0, hd1, hd2, hd3⟩ := info_parts info_dr;have HI := Lib.hid (And.intro hi0 (And.intro hz0 (And.intro hz1 hz2)));have HIJ := Lib.hid (And.intro hj0 (And.intro hj1 (And.intro hj2 hj3)));have HID := Lib.hid (And.intro hd0 (And.intro hd1 (And.intro hd2 hd3)));clear hi0 hz0 hz1 hz2 hj0 hj1 hj2 hj3 hd0 hd1 hd2 hd3;have HL1 := Lib.hid (word_stp s).2.2.2;have HL2 := Lib.hid ((word_stp s).trans (word_stp s.word.2)).2.2.2;have HP := Lib.hid h;obtain ⟨W, hW⟩ : ∃ W, s.item = W := ⟨_, rfl⟩;rw [hW];have HW := Lib.hid hW;clear h hW;go_enter Tryz.func72, Tryz.ntmps72;go_wp2_with fail;(with_reducible refine (rd_word B _ gr (strV s.L.name) (.slice A n c) (.slice A' n' c') (.slice A'' n'' c'') s HP.out.rd).mono ?_); rintro e w1 ⟨rfl, h1, hg1⟩;have H1 := Lib.hid h1;have hgl := h1.lt;have BW1 := Lib.hid (rg_bel hg1 (B := B) (by have := HP.out.rd.lt; have := HP.out.rd.hB; omega) HP.out.rd.hB);have t0 := HP.out.rd.tchR hg1;have BD1 := Lib.hid (HP.out.bd.tch t0 (by decide) (fun _ _ x => x.tch t0 (by decide)));have JT1 := Lib.hid (HP.out.jt.tch t0 (by decide) (fun _ _ x => x));have DR1 := Lib.hid (HP.out.dr.tch t0 (by decide) (fun _ _ x => x));obtain ⟨Ak, nk, ck, hbk, _⟩ := h1.blk;have HBk := Lib.hid hbk;clear h1 hg1 t0 hbk;have hn := toList_v s.word.1;go_wp2_with fail;(with_reducible refine (rd_word B _ gr (strV s.L.name) (.slice A n c) (.slice A' n' c') (.slice A'' n'' c'') s.word.2 H1.out).mono ?_); rintro e w2 ⟨rfl, h2, hg2⟩;have H2 := Lib.hid h2;have hlj := h2.lt;have hw2 := hg2.size;have HNM := Lib.hid (word_nm H1.out.txt);clear h2;go_wp2_with fail;(with_reducible refine (rd_named B _ gr (strV s.L.name) (.slice A' n' c') (.slice A'' n'' c'') A n c s.word.2.word.2 (H2.out.alloc _) (by rw [HL2.out]; exact H1.out.bodies BD1.out (rg_alloc hg2 _)) (by have := HP.out.cnt; omega) (-1)).mono ?_); rintro e w3 ⟨rfl, h3, hg3⟩;have hsa := named_stp s.word.2.word.2 (-1);generalize hfa : s.word.2.word.2.named (-1) = fa at h3 hsa ⊢;have HFA := Lib.hid hfa;have HSA := Lib.hid ((word_stp s.word.2).trans hsa);clear hfa hsa;have G3 := rg_trans (rg_alloc hg2 _) hg3;have p3 : Blk w3 w2.heap.size 118 #[strV s.word.2.word.1, .int .i64 0] := rg_blk hg3 (Blk.new _ _ _) (by omega);have hl3 := p3.lt;have H3 := Lib.hid h3;generalize hgj : w2.heap.size = gj at hlj hw2 p3 hl3 ⊢;have HNE := Lib.hid (own_lt DR1.out (g := gj) (by omega));clear hgj hg3 h3 hg2 H2;obtain ⟨cj0, cj1⟩ := p3.c2;obtain ⟨fj0, fj1⟩ := p3.f2;have P3 := Lib.hid p3;clear p3;go_wp2_with fail;clear cj0 cj1 fj0 fj1;(with_reducible refine (rd_sign B _ gr (strV s.L.name) (.slice A n c) (.slice A' n' c') (.slice A'' n'' c'') fa.2 (H3.out.bel1 ((Below.refl _ w3).setCell (p := ⟨gj, 1, none⟩) hlj (.int .i64 fa.1))) [59]).mono ?_); rintro e w6 ⟨rfl, h6, hg6⟩;have G6 := Lib.hid (rg_trans (rg_bel1 G3 ((Below.refl _ w3).setCell (p := ⟨gj, 1, none⟩) hw2 (.int .i64 fa.1))) hg6);have p6 := rg_blk hg6 (P3.out.set_ 1 (.int .i64 fa.1)) (by omega);have H6 := Lib.hid h6;have P6 := Lib.hid p6;have HC := Lib.hid (show DrC w6 [strV s.word.2.word.1, .int .i64 fa.1] ⟨s.word.2.word.1, fa.1⟩ from ⟨rfl, HNM.out⟩);have DR6 := Lib.hid (DR1.out.tch (H1.out.tchR G6.out) (by decide) (fun _ _ x => x));clear h6 hg6 p6;go_wp2_with fail;change Code.wp _ _ _ (fr19 _ _ _ _ _ _ _ _ _ _ _ _ _ _ _ _ _ _ _ _ _ _ _ _ _ _ _ _ _ _ _ _ _ _ _ _ _ _ _ _ _ _ _ _ _ _ _ _ _ _ _ _ _ _ _ _ _ _ _ _ _ _ _ _ _ _ _ _ _ _ _ _ _ _ _ _ _ _ _ _ _ (fun _ => undef)) _;refine wp_region_stg (n := 12) (a := 7) (K := 2) (x0 := fun _ => undef) (R := fun ri => List.getD ((VE (.pointer (some ⟨gr, 0, none⟩))) :: (VE (.pointer (some ⟨gr, 0, none⟩))) :: (VE (.pointer (some ⟨gr, 0, none⟩))) :: (VE (.pointer (some ⟨gr, 1, none⟩))) :: (VE (.pointer (some ⟨gr, 4, none⟩))) :: (VE (.slice A'' n'' c'')) :: (VE (.agg #[strV s.word.2.word.1, .int .i64 fa.1])) :: VA :: VA :: (VE (.pointer (some ⟨gr, 0, none⟩))) :: (VE (.pointer (some ⟨gr, 1, none⟩))) :: (VE (.pointer (some ⟨gr, 4, none⟩))) :: []) ri VA) (T := fun k x wq => TJ_ 118 DrC 2 B gj w6 [strV s.word.2.word.1, .int .i64 fa.1] ⟨s.word.2.word.1, fa.1⟩ n'' s.L.drivers k (x 7) (x 8) wq) (by kernel_rfl) rfl ?_ ?_ ?_ (by decide) ?_ ?_ rfl ?_ ?_ ?_
 ·exact each_of ⟨(fun _ _ _ => rfl), (fun _ _ _ => rfl), (fun _ _ _ => rfl), (fun _ _ _ => rfl), (fun _ _ _ => rfl), (fun _ _ _ => rfl), (fun _ _ _ => rfl), (fun _ _ _ => rfl), (fun _ _ _ => rfl), (fun _ _ _ => rfl), (fun _ _ _ => rfl), (fun _ _ _ => rfl), (fun h => absurd h (by decide)), trivial⟩
 ·exact each_of (acyc_from _ 0 (by kernel_rfl))
 ·exact (fun j hj => reach_of (by kernel_rfl) hj)
 ·intro j o hj ho
  obtain rfl : j = 0 := by omega
  injection ho with ho;subst ho;exact ⟨⟨7, .data⟩, by simp, rfl, rfl⟩
 ·intro k x i v w hi h
  have e7 : upd x i v 7 = x 7 := upd_ne _ _ (by omega);have e8 : upd x i v 8 = x 8 := upd_ne _ _ (by omega);simp only [e7, e8];exact h
 ·refine each_of ⟨?_, ?_, ?_, ?_, ?_, ?_, ?_, (fun _ h => absurd h (by decide)), (fun _ h => absurd h (by decide)), ?_, ?_, ?_, (fun h => absurd h (by decide)), trivial⟩
  ·intro _ _ k xf wq hT hd K hK
   (try dsimp only [fr19]);go_simp;have hz := hK.out _ rfl;exact hz
  ·intro _ _ k xf wq hT hd K hK
   (try dsimp only [fr19]);go_simp;have hz := hK.out _ rfl;exact hz
  ·intro _ _ k xf wq hT hd K hK
   have dq1 : xf 1 = .pointer (some ⟨gr, 0, none⟩) := hd ⟨1, .data⟩ (by simp) rfl;(try dsimp only [fr19]); (try simp only [dq1]);go_simp;have hz := hK.out _ rfl;dsimp only [fr19] at hz;simp only [dq1] at hz;exact hz
  ·intro _ _ k xf wq hT hd K hK
   have dq2 : xf 2 = .pointer (some ⟨gr, 0, none⟩) := hd ⟨2, .data⟩ (by simp) rfl;(try dsimp only [fr19]); (try simp only [dq2]);go_simp;have hz := hK.out _ rfl;dsimp only [fr19] at hz;simp only [dq2] at hz;exact hz
  ·intro _ _ k xf wq hT hd K hK
   have dq3 : xf 3 = .pointer (some ⟨gr, 1, none⟩) := hd ⟨3, .data⟩ (by simp) rfl;(try dsimp only [fr19]); (try simp only [dq3]);go_simp;have hz := hK.out _ rfl;dsimp only [fr19] at hz;simp only [dq3] at hz;exact hz
  ·intro _ _ k xf wq hT hd K hK
   have dq4 : xf 4 = .pointer (some ⟨gr, 4, none⟩) := hd ⟨4, .data⟩ (by simp) rfl;have hc2 := (TJ_.rd (by decide) H6.out hT).cells;obtain ⟨_, hc2, hc3, hc4, _⟩ := hc2;(try dsimp only [fr19]); (try simp only [dq4]);go_simp;have hz := hK.out _ rfl;dsimp only [fr19] at hz;simp only [dq4] at hz;exact hz
  ·intro _ _ k xf wq hT hd K hK
   obtain ⟨hd0, hd1⟩ := (TJ_.blk P6.out hT).c2;(try dsimp only [fr19]);go_simp;have hz := hK.out _ rfl;exact hz
  ·intro _ _ k xf wq hT hd K hK
   have dq0 : xf 0 = .pointer (some ⟨gr, 0, none⟩) := hd ⟨0, .data⟩ (by simp) rfl;(try dsimp only [fr19]); (try simp only [dq0]);go_simp;have hz := hK.out _ rfl;dsimp only [fr19] at hz;simp only [dq0] at hz;exact hz
  ·intro _ _ k xf wq hT hd K hK
   have dq9 : xf 9 = .pointer (some ⟨gr, 0, none⟩) := hd ⟨9, .data⟩ (by simp) rfl;(try dsimp only [fr19]); (try simp only [dq9]);go_simp;have hz := hK.out _ rfl;dsimp only [fr19] at hz;simp only [dq9] at hz;exact hz
  intro _ _ k xf wq hT hd K hK;have dq10 : xf 10 = .pointer (some ⟨gr, 1, none⟩) := hd ⟨10, .data⟩ (by simp) rfl;(try dsimp only [fr19]); (try simp only [dq10]);go_simp;have hz := hK.out _ rfl;dsimp only [fr19] at hz;simp only [dq10] at hz;exact hz
 ·intro k o hk ho
  obtain rfl | rfl := (show k = 0 ∨ k = 1 by omega)
  ·injection ho with ho
   subst ho;intro xf wq hT hd K hK;have hT : wq = w6.drew := hT;subst hT;have dq6 : xf 6 = .agg #[strV s.word.2.word.1, .int .i64 fa.1] := hd ⟨6, .data⟩ (by simp) rfl;(try dsimp only [fr19]); (try simp only [dq6]);go_simp;have hz := hK.out (.slice (some ⟨w6.heap.size, 0, none⟩) 1 1) (w6.drew.alloc (.cells #[strV s.word.2.word.1, .int .i64 fa.1] 118)) trivial ⟨rfl, rfl⟩;dsimp only [fr19] at hz;simp only [dq6] at hz;exact hz
  injection ho with ho;subst ho;intro xf wq hT hd K hK;obtain ⟨e7, ew⟩ : TJ_ 118 DrC 2 B gj w6 [strV s.word.2.word.1, .int .i64 fa.1] ⟨s.word.2.word.1, fa.1⟩ n'' s.L.drivers 1 (xf 7) (xf 8) wq := hT;subst ew;have dq5 : xf 5 = .slice A'' n'' c'' := hd ⟨5, .data⟩ (by simp) rfl;obtain ⟨hl, xs, hown, hrow⟩ := DR6.out;have hown : OwJ noW w6.drew B 118 2 (.slice A'' n'' c'') n'' xs := hown;have hrow : RowC DrC 2 w6.drew s.L.drivers xs := hrow;have hlt := H6.out.lt;have hBg := H6.out.hB;have hds : w6.drew.heap.size = w6.heap.size := rfl;rw [if_pos (show Region.wanted _ _ = true from rfl)];refine wp_append_J _ noW _ _ _ rfl B 118 id (.agg #[.string ⟨#[]⟩, .int .i64 0]) 2 24 Tryz.underlying34 HID.out.1 HID.out.2.1 HID.out.2.2.1 HID.out.2.2.2 rfl (by omega) rfl (.slice A'' n'' c'') n'' xs dq5 (hown.belw ((Below.refl _ _).alloc (Nat.le_refl _) _)) ⟨w6.heap.size, 0, none⟩ 1 1 [strV s.word.2.word.1, .int .i64 fa.1] e7 rfl (World.news_of_block (heap_alloc_new w6.drew _)) (by simp [Value.oneCell']) rfl (by omega) (by have := HP.out.cnt; unfold maxLen; omega) (by have := HP.out.cnt; omega) (by simp; omega) ?_;intro g5 cap w5 hown5 hgrow _;have hp := row_push hl hown hrow (a := ⟨s.word.2.word.1, fa.1⟩) (cs := [strV s.word.2.word.1, .int .i64 fa.1]) (show DrC w6.drew _ (⟨s.word.2.word.1, fa.1⟩ : DriverL) from HC.out) rfl hown5 hgrow (by omega) (fun _ _ _ _ x => x);exact hK.out _ _ trivial ⟨some ⟨g5, 0, none⟩, cap, rfl, hp.1, (P6.out.drew.alloc _).grown hgrow HNE.out, hp.2.1, ((Below.refl B w6).drew).trans hp.2.2⟩
 intro o ho xf wq hT hr K hK;injection ho with ho;subst ho;obtain ⟨A5, c5, e8, hrow, _, ht, hb⟩ : TJ_ 118 DrC 2 B gj w6 [strV s.word.2.word.1, .int .i64 fa.1] ⟨s.word.2.word.1, fa.1⟩ n'' s.L.drivers 2 (xf 7) (xf 8) wq := hT;have dq11 : xf 11 = .pointer (some ⟨gr, 4, none⟩) := hr 11 (by decide);have RQ := H6.out.other ht (by decide) hb;obtain ⟨_, hc2, hc3, hc4, _, hf2, hf3, hf4⟩ := RQ.cells;rw [e8] at hrow;have RQ' := Lib.hid RQ;have HROW := Lib.hid hrow;clear RQ hrow hr;(try dsimp only [fr19]); (try simp only [dq11, e8]);go_simp;refine hK.out _ _ ?_;go_wp2_with fail;go_end0;have t1 := H1.out.tchR G6.out;have t3 := RQ'.out.tchR (rg_set (rg_refl gr wq) 4 (.slice A5 (n'' + 1) c5));have hst := HSA.out.trans (expect_stp fa.2 2 [59]);have hL : (PS.expect fa.2 2 [59]).L = s.L := hst.2.2.2.trans HL1.out;have htk := word_took (s := s) (by rw [HW1.out]; decide);have hst1 := hst.1
 have eW : W = PS.addD (PS.expect fa.2 2 [59]) ⟨s.word.2.word.1, fa.1⟩ := by
  rw [← HW.out]; unfold PS.item; rw [if_neg (by rw [HW1.out]; decide), if_neg (by rw [HW1.out]; decide), if_neg (by rw [HW1.out]; decide), if_pos HW1.out]; unfold PS.driver;simp only [HFA.out]
 subst eW;refine ⟨rfl, ⟨A, n, c, A', n', c', A5, n'' + 1, c5, ⟨?_, ?_, ?_, ?_, ?_, ?_, ?_⟩⟩, ?_⟩
 ·show RdP B _ gr (strV (PS.expect fa.2 2 [59]).L.name) _ _ _ _
  rw [hL];exact RQ'.out.put4 _ rfl rfl rfl
 ·show RowT _ _ _ _ _ _ _ (PS.expect fa.2 2 [59]).L.bodies
  rw [hL];exact ((BD1.out.tch t1 (by decide) (fun _ _ x => x.tch t1 (by decide))).tch ht (by decide) (fun _ _ x => x.tch ht (by decide))).tch t3 (by decide) (fun _ _ x => x.tch t3 (by decide))
 ·show RowT _ _ _ _ _ _ _ (PS.expect fa.2 2 [59]).L.joints
  rw [hL];exact ((JT1.out.tch t1 (by decide) (fun _ _ x => x)).tch ht (by decide) (fun _ _ x => x)).tch t3 (by decide) (fun _ _ x => x)
 ·show RowT _ _ _ _ _ _ _ ((PS.expect fa.2 2 [59]).L.drivers ++ [⟨s.word.2.word.1, fa.1⟩])
  rw [hL];exact HROW.out.tch t3 (by decide) (fun _ _ x => x)
 ·show NmL (PS.expect fa.2 2 [59]).L.name
  rw [hL];exact HP.out.nm
 ·show n + n' + (n'' + 1) + (PS.expect fa.2 2 [59]).toks.length ≤ _
  have h1 := HP.out.cnt;omega
 ·intro b hbm
  have hbm : b ∈ (PS.expect fa.2 2 [59]).L.bodies := hbm;rw [hL] at hbm;exact HP.out.pts b hbm
 exact ((BW1.out.trans (rg_bel G6.out (by have := H1.out.lt; have := H1.out.hB; omega) H1.out.hB)).trans hb).setCell (p := ⟨gr, 4, none⟩) H1.out.hB _
theorem rd_item_else (B : Nat) (w : World) (gr : Nat) (s : PS) (A : Option Addr) (n c : Nat) (A' : Option Addr) (n' c' : Nat) (A'' : Option Addr) (n'' c'' : Nat) (h : RdL B w gr s A n c A' n' c' A'' n'' c'') (k1 : s.word.1 ≠ wBody) (k2 : s.word.1 ≠ wPin) (k3 : s.word.1 ≠ wSlide) (k4 : s.word.1 ≠ wDriver) : Calls Tryz.prog 72 #[.pointer (some ⟨gr, 0, none⟩)] w (RetL_ B w gr s.item) := by
 have hb0 : (s.word.1 == [98, 111, 100, 121]) = false := beq_eq_false_iff_ne.2 k1;have hb1 : (s.word.1 == [112, 105, 110]) = false := beq_eq_false_iff_ne.2 k2;have hb2 : (s.word.1 == [115, 108, 105, 100, 101]) = false := beq_eq_false_iff_ne.2 k3;have hb3 : (s.word.1 == [100, 114, 105, 118, 101, 114]) = false := beq_eq_false_iff_ne.2 k4;have HK := Lib.hid (show s.item = s.word.2.fail 2 by unfold PS.item; rw [if_neg k1, if_neg k2, if_neg k3, if_neg k4]);clear k1 k2 k3 k4;obtain ⟨i0, hi0, hz0, hz1, hz2⟩ := info_parts info_bd;obtain ⟨ij, hj0, hj1, hj2, hj3⟩ := info_parts info_jt;obtain ⟨id, hd0, hd1, hd2, hd3⟩ := info_parts info_dr;have HI := Lib.hid (And.intro hi0 (And.intro hz0 (And.intro hz1 hz2)));have HIJ := Lib.hid (And.intro hj0 (And.intro hj1 (And.intro hj2 hj3)));have HID := Lib.hid (And.intro hd0 (And.intro hd1 (And.intro hd2 hd3)));clear hi0 hz0 hz1 hz2 hj0 hj1 hj2 hj3 hd0 hd1 hd2 hd3;have HL1 := Lib.hid (word_stp s).2.2.2;have HL2 := Lib.hid ((word_stp s).trans (word_stp s.word.2)).2.2.2;have HP := Lib.hid h;obtain ⟨W, hW⟩ : ∃ W, s.item = W := ⟨_, rfl⟩;rw [hW];have HW := Lib.hid hW;clear h hW;go_enter Tryz.func72, Tryz.ntmps72;go_wp2_with fail;(with_reducible refine (rd_word B _ gr (strV s.L.name) (.slice A n c) (.slice A' n' c') (.slice A'' n'' c'') s HP.out.rd).mono ?_); rintro e w1 ⟨rfl, h1, hg1⟩;have H1 := Lib.hid h1;have hgl := h1.lt;have BW1 := Lib.hid (rg_bel hg1 (B := B) (by have := HP.out.rd.lt; have := HP.out.rd.hB; omega) HP.out.rd.hB);have t0 := HP.out.rd.tchR hg1;have BD1 := Lib.hid (HP.out.bd.tch t0 (by decide) (fun _ _ x => x.tch t0 (by decide)));have JT1 := Lib.hid (HP.out.jt.tch t0 (by decide) (fun _ _ x => x));have DR1 := Lib.hid (HP.out.dr.tch t0 (by decide) (fun _ _ x => x));obtain ⟨Ak, nk, ck, hbk, _⟩ := h1.blk;have HBk := Lib.hid hbk;clear h1 hg1 t0 hbk;have hn := toList_v s.word.1;have HB1 := HBk.out;clear HBk;obtain ⟨Ak, nk, ck, hbk, htk⟩ := H1.out.blk;have HBk := Lib.hid hbk;have HTk := Lib.hid htk;clear hbk htk HB1;go_wp2_with fail;(with_reducible refine (rd_fail _ gr (.slice Ak nk ck) (strV s.L.name) (.slice A n c) (.slice A' n' c') (.slice A'' n'' c'') s.word.2.x 2 HBk.out (by decide)).mono ?_); rintro e w2 ⟨rfl, hb2, g2⟩;have HB2 := Lib.hid hb2;clear hb2;go_wp2_with fail;go_end0;have t1 := H1.out.tchR g2;have eW : W = s.word.2.fail 2 := by rw [← HW.out, HK.out]
 have R2 : RdP B w2 gr (strV s.L.name) (.slice A n c) (.slice A' n' c') (.slice A'' n'' c'') (s.word.2.fail 2) := by
  have hb2 := HB2.out;unfold PS.fail;split
  ·rename_i hx
   rw [if_pos hx] at hb2;exact ⟨⟨Ak, nk, ck, hb2, HTk.out.rg H1.out.hB g2⟩, H1.out.mx.rg H1.out.hB g2, H1.out.hB, H1.out.len, H1.out.txt, H1.out.hw⟩
  rename_i hx;rw [if_neg hx] at hb2;exact ⟨⟨Ak, nk, ck, hb2, HTk.out.rg H1.out.hB g2⟩, H1.out.mx.rg H1.out.hB g2, H1.out.hB, H1.out.len, H1.out.txt, H1.out.hw⟩
 have hst := (word_stp s).trans (fail_stp s.word.2 2 (by decide) 0);have hL : (s.word.2.fail 2).L = s.L := hst.2.2.2;subst eW;refine ⟨rfl, ⟨A, n, c, A', n', c', A'', n'', c'', ⟨by rw [hL]; exact R2, ?_, ?_, ?_, by rw [hL]; exact HP.out.nm, ?_, by rw [hL]; exact HP.out.pts⟩⟩, ?_⟩
 ·rw [hL]; exact BD1.out.tch t1 (by decide) (fun _ _ x => x.tch t1 (by decide))
 ·rw [hL]; exact JT1.out.tch t1 (by decide) (fun _ _ x => x)
 ·rw [hL]; exact DR1.out.tch t1 (by decide) (fun _ _ x => x)
 ·have h1 := HP.out.cnt
  have h2 := hst.1;omega
 exact BW1.out.trans (rg_bel g2 (by have := H1.out.lt; have := H1.out.hB; omega) H1.out.hB)
theorem rd_item (B : Nat) (w : World) (gr : Nat) (s : PS) (A : Option Addr) (n c : Nat) (A' : Option Addr) (n' c' : Nat) (A'' : Option Addr) (n'' c'' : Nat) (h : RdL B w gr s A n c A' n' c' A'' n'' c'') : Calls Tryz.prog 72 #[.pointer (some ⟨gr, 0, none⟩)] w (RetL_ B w gr s.item) := by
 by_cases h1 : s.word.1 = wBody
 ·exact rd_item_body B w gr s A n c A' n' c' A'' n'' c'' h h1
 by_cases h2 : s.word.1 = wPin
 ·exact rd_item_pin B w gr s A n c A' n' c' A'' n'' c'' h h2
 by_cases h3 : s.word.1 = wSlide
 ·exact rd_item_slide B w gr s A n c A' n' c' A'' n'' c'' h h3
 by_cases h4 : s.word.1 = wDriver
 ·exact rd_item_driver B w gr s A n c A' n' c' A'' n'' c'' h h4
 exact rd_item_else B w gr s A n c A' n' c' A'' n'' c'' h h1 h2 h3 h4
theorem toks_sum : ∀ (f : Nat) (r : List UInt8) (line col : Nat) (l : List Tkn), toks f r line col = .ok l → (l.map fun t => t.text.length).sum ≤ r.length ∧ ∀ t ∈ l, 0 < t.text.length := by
 intro f
 induction f with
 | zero => intro r line col l h; unfold toks at h; injection h with h; subst h; simp
 | succ f ih =>
  intro r line col l h
  cases r with
  | nil => unfold toks at h; injection h with h; subst h; simp
  | cons c s =>
   unfold toks at h;split at h
   ·have := ih _ _ _ _ h
    refine ⟨?_, this.2⟩;rw [List.length_cons]; omega
   split at h
   ·have := ih _ _ _ _ h
    refine ⟨?_, this.2⟩;rw [List.length_cons]; omega
   split at h
   ·have := ih _ _ _ _ h
    refine ⟨?_, this.2⟩;rw [List.length_drop] at this; omega
   split at h
   ·cases h
   rename_i k n hf;have hn := firstT_ok hf
   cases hx : toks f ((c :: s).drop n) line (col + n) with
   | err x => rw [hx] at h; cases h
   | ok l' =>
    rw [hx] at h;injection h with h;subst h;have := ih _ _ _ _ hx;have hl : ((c :: s).take n).length = n := by rw [List.length_take]; omega
    rw [List.length_drop] at this;refine ⟨?_, fun t ht => ?_⟩
    ·simp only [List.map_cons, List.sum_cons, hl]; omega
    rcases List.mem_cons.1 ht with e | e
    ·subst e; show 0 < ((c :: s).take n).length; omega
    exact this.2 t e
theorem len_le_sum : ∀ {l : List Tkn}, (∀ t ∈ l, 0 < t.text.length) → l.length ≤ (l.map fun t => t.text.length).sum
 | [], _ => by simp
 | t :: l, h => by
  have h1 := len_le_sum (l := l) (fun x hx => h x (by simp [hx]));have h2 := h t (by simp);simp only [List.length_cons, List.map_cons, List.sum_cons]; omega
theorem tokens_len {s : List UInt8} {l : List Tkn} (h : tokens s = .ok l) : l.length ≤ s.length ∧ (l.map fun t => t.text.length).sum ≤ s.length := by
 obtain ⟨h1, h2⟩ := toks_sum _ _ _ _ _ h;have := len_le_sum h2;omega
theorem SplitOut.len {s : List UInt8} {x : Int} {l : List Tkn} (h : SplitOut s x l) : l.length ≤ 65536 := by
 rcases h with ⟨_, _, rfl⟩ | ⟨h, ht, _⟩ | ⟨_, _, _, _, rfl⟩
 ·simp
 ·have := (tokens_len ht).1; omega
 simp
def RetLkE (w : World) (v : Value) (L : LinkL) (e : Ending) (w' : World) : Prop :=
  ∃ A n c A' n' c' A'' n'' c'', e = .returned (.tuple #[.agg #[strV L.name, .slice A n c, .slice A' n' c', .slice A'' n'' c''], v]) ∧ LkS 130 w' A n c A' n' c' A'' n'' c'' L ∧ Below w.heap.size w w'
theorem sum_mem {l : List Tkn} {t : Tkn} (h : t ∈ l) : t.text.length ≤ (l.map fun t => t.text.length).sum := by
 induction l with
 | nil => cases h
 | cons a l ih =>
  rw [List.map_cons, List.sum_cons];rcases List.mem_cons.1 h with rfl | h
  ·omega
  have := ih h; omega
theorem split_txt {s : List UInt8} {l : List Tkn} (h : SplitOut s 0 l) : ∀ t ∈ l, NmL t.text := by
 intro t ht;rcases h with ⟨_, h, _⟩ | ⟨h, hk, _⟩ | ⟨_, _, _, _, rfl⟩
 ·cases h
 ·have h1 := (tokens_len hk).2
  have h2 := sum_mem ht;show t.text.length < _;omega
 cases ht
theorem lk_zero (w : World) (k : Nat) : LkS k w none 0 0 none 0 0 none 0 0 L0 := ⟨by show ([] : List UInt8).length < _; decide, ⟨rfl, Nat.le_refl _, fun h => absurd h (by omega)⟩, ⟨rfl, Nat.le_refl _, fun h => absurd h (by omega)⟩, ⟨rfl, Nat.le_refl _, fun h => absurd h (by omega)⟩⟩
theorem rd_start {w : World} {A : Option Addr} {n c : Nat} {s : List UInt8} {l : List Tkn} (hs : SplitOut s 0 l) (ht : TkS w A n c l) (hmx : Mx w) (L : LinkL) (hL : L.name = [] ∧ L.bodies = [] ∧ L.joints = [] ∧ L.drivers = []) : RdL w.heap.size (w.alloc (.cells #[.slice A n c, .string ⟨#[]⟩, .slice none 0 0, .slice none 0 0, .slice none 0 0, .nilIface] 124)) w.heap.size ⟨l, L, 0⟩ none 0 0 none 0 0 none 0 0 := by
 obtain ⟨h1, h2, h3, h4⟩ := hL;have hb : Below w.heap.size w (w.alloc (.cells #[.slice A n c, .string ⟨#[]⟩, .slice none 0 0, .slice none 0 0, .slice none 0 0, .nilIface] 124)) := (Below.refl _ _).alloc (Nat.le_refl _) _;refine ⟨⟨⟨A, n, c, ?_, (TkA.of_tks ht).belB hb⟩, (MxA.of_mx hmx).belB hb, Nat.le_refl _, hs.len, split_txt hs, by rw [h1]; exact ⟨rfl, rfl, rfl, rfl⟩⟩, by rw [h2]; exact RowT.nil, by rw [h3]; exact RowT.nil, by rw [h4]; exact RowT.nil, by rw [h1]; show ([] : List UInt8).length < _; decide, ?_, by rw [h2]; intro b hb; cases hb⟩
 ·rw [h1]; exact Blk.new _ _ _
 have := hs.len;show 0 + 0 + 0 + l.length ≤ _;omega
theorem RdL.lk {B : Nat} {w : World} {gr : Nat} {s : PS} {A A' A'' : Option Addr} {n c n' c' n'' c'' : Nat} (h : RdL B w gr s A n c A' n' c' A'' n'' c'') : LkS 130 w A n c A' n' c' A'' n'' c'' s.L := ⟨h.nm, h.bd.bds, h.jt.jts, h.dr.drs⟩
theorem RdL.call {B : Nat} {w w' : World} {gr : Nat} {s s' : PS} {A A' A'' : Option Addr} {n c n' c' n'' c'' : Nat} (h : RdL B w gr s A n c A' n' c' A'' n'' c'') (h' : RdP B w' gr (strV s.L.name) (.slice A n c) (.slice A' n' c') (.slice A'' n'' c'') s') (k : w.grownBy w' (some gr)) (hL : s'.L = s.L) (hl : s'.toks.length ≤ s.toks.length) : RdL B w' gr s' A n c A' n' c' A'' n'' c'' := by
 have t := h.rd.tchR k;exact ⟨by rw [hL]; exact h', by rw [hL]; exact h.bd.tch t (by decide) (fun _ _ x => x.tch t (by decide)), by rw [hL]; exact h.jt.tch t (by decide) (fun _ _ x => x), by rw [hL]; exact h.dr.tch t (by decide) (fun _ _ x => x), by rw [hL]; exact h.nm, by have := h.cnt; omega, by rw [hL]; exact h.pts⟩
theorem RdL.below {B : Nat} {w w' : World} {gr : Nat} {s : PS} {A A' A'' : Option Addr} {n c n' c' n'' c'' : Nat} (h : RdL B w gr s A n c A' n' c' A'' n'' c'') (k : w.grownBy w' (some gr)) : Below B w w' := rg_bel k (by have := h.rd.lt; have := h.rd.hB; omega) h.rd.hB
theorem RdL.name {B : Nat} {w : World} {gr : Nat} {s : PS} {A A' A'' : Option Addr} {n c n' c' n'' c'' : Nat} (h : RdL B w gr s A n c A' n' c' A'' n'' c'') (nm : List UInt8) (hn : NmL nm) : RdL B (w.setCell ⟨gr, 1, none⟩ (strV nm)) gr { s with L := { s.L with name := nm } } A n c A' n' c' A'' n'' c'' := by
 have t := h.rd.tchR (rg_set (rg_refl gr w) 1 (strV nm));exact ⟨h.rd.put1 _ rfl rfl rfl, h.bd.tch t (by decide) (fun _ _ x => x.tch t (by decide)), h.jt.tch t (by decide) (fun _ _ x => x), h.dr.tch t (by decide) (fun _ _ x => x), hn, h.cnt, h.pts⟩
theorem RdL.belw {B : Nat} {w w' : World} {gr : Nat} {s : PS} {A A' A'' : Option Addr} {n c n' c' n'' c'' : Nat} (h : RdL B w gr s A n c A' n' c' A'' n'' c'') (k : Below w.heap.size w w') : RdL B w' gr s A n c A' n' c' A'' n'' c'' := by
 have t : Tch (fun _ => false) w w' := Tch.below k;exact ⟨h.rd.belw k, h.bd.tch t rfl (fun _ _ x => x.tch t rfl), h.jt.tch t rfl (fun _ _ x => x), h.dr.tch t rfl (fun _ _ x => x), h.nm, h.cnt, h.pts⟩
theorem RdL.lkA {B : Nat} {w w' : World} {gr : Nat} {s : PS} {A A' A'' : Option Addr} {n c n' c' n'' c'' : Nat} (h : RdL B w gr s A n c A' n' c' A'' n'' c'') (t : Tch (TOne 36) w w') : LkS 130 w' A n c A' n' c' A'' n'' c'' s.L :=
 ⟨h.nm, (h.bd.tch t (by decide) (fun _ _ x => x.tch t (by decide))).bds, (h.jt.tch t (by decide) (fun _ _ x => x)).jts, (h.dr.tch t (by decide) (fun _ _ x => x)).drs⟩
theorem tch4 {w : World} {g : Nat} {t : TypeId} {a0 a1 a2 a3 : Value} (z : Blk w g t #[a0, a1, a2, a3]) (hz : noW a0 = true ∧ noW a1 = true ∧ noW a2 = true ∧ noW a3 = true) (u0 u1 u2 u3 : Value) : Tch (TOne t) w ((((w.setCell ⟨g, 0, none⟩ u0).setCell ⟨g, 1, none⟩ u1).setCell ⟨g, 2, none⟩ u2).setCell ⟨g, 3, none⟩ u3) :=
 Tch.of_ne (by simp [World.setCell]) z (by simp [TOne]) (by simp [hz]) fun g' _ hne => by
  rw [Below.heap_setCell _ _ _ _ hne, Below.heap_setCell _ _ _ _ hne, Below.heap_setCell _ _ _ _ hne, Below.heap_setCell _ _ _ _ hne]
theorem bel4 {B g : Nat} {a w : World} (h : Below B a w) (hB : B ≤ g) (u0 u1 u2 u3 : Value) : Below B a ((((w.setCell ⟨g, 0, none⟩ u0).setCell ⟨g, 1, none⟩ u1).setCell ⟨g, 2, none⟩ u2).setCell ⟨g, 3, none⟩ u3) :=
 (((h.setCell (p := ⟨g, 0, none⟩) hB u0).setCell (p := ⟨g, 1, none⟩) hB u1).setCell (p := ⟨g, 2, none⟩) hB u2).setCell (p := ⟨g, 3, none⟩) hB u3
theorem p_linkage_1 (w : World) (s : List UInt8) (x : Int) (l : List Tkn) (hs : SplitOut s x l) (hx : x ≠ 0) : Calls Tryz.prog 23 #[strV s] w (RetLkE w (errV x) L0) := by
 have HS := Lib.hid hs;have HX := Lib.hid hx;rw [eVp hx];clear hs hx;go_enter Tryz.func23, Tryz.ntmps23;go_wp2_with fail;(with_reducible refine (t_split_x _ s x l HS.out).mono ?_); rintro e w1 ⟨A, n, c, rfl, _, hb1⟩;rw [eVp HX.out];have z1 : Blk w1 w.heap.size 36 #[.string ⟨#[]⟩, .slice none 0 0, .slice none 0 0, .slice none 0 0] := (blkAt _ _ _ (by simp)).below hb1 (by simp);have cz0 := z1.c4;have fz0 := z1.f4;have q1 := hb1.q1;clear hb1 z1;go_wp2_with fail;refine bodyPost_ret (v := .tuple #[.agg #[.string ⟨#[]⟩, .slice none 0 0, .slice none 0 0, .slice none 0 0], .iface 57 (.int .i64 x)]) (by simp [results, Tryz.results23, go_sem, *] <;> trivial) rfl ?_;exact ⟨_, _, _, _, _, _, _, _, _, rfl, lk_zero _ _, (((q1.setCell (p := ⟨w.heap.size, 0, none⟩) (Nat.le_refl _) _).setCell (p := ⟨w.heap.size, 1, none⟩) (Nat.le_refl _) _).setCell (p := ⟨w.heap.size, 2, none⟩) (Nat.le_refl _) _).setCell (p := ⟨w.heap.size, 3, none⟩) (Nat.le_refl _) _⟩
theorem p_linkage_2 (w : World) (s : List UInt8) (l : List Tkn) (hmx : Mx w) (hs : SplitOut s 0 l) (x : Int) (L : LinkL) (h : ((readL l).x ≠ 0 ∧ x = (readL l).x ∧ L = L0) ∨ ((readL l).x = 0 ∧ lkErr (readL l).L ≠ 0 ∧ x = lkErr (readL l).L ∧ L = L0) ∨ ((readL l).x = 0 ∧ lkErr (readL l).L = 0 ∧ x = 0 ∧ L = (readL l).L)) : Calls Tryz.prog 23 #[strV s] w (RetLkE w (errV x) L) := by
 have HS := Lib.hid hs;have HM := Lib.hid hmx;obtain ⟨R, hR⟩ : ∃ R, readL l = R := ⟨_, rfl⟩;rw [hR] at h;have HR := Lib.hid hR;have HH := Lib.hid h;clear hs hmx hR h;go_enter Tryz.func23, Tryz.ntmps23;go_wp2_with fail;(with_reducible refine (t_split_x _ s 0 l HS.out).mono ?_); rintro e w1 ⟨A, n, c, rfl, ht, hb1⟩;rw [errV_0];have z1 : Blk w1 w.heap.size 36 #[.string ⟨#[]⟩, .slice none 0 0, .slice none 0 0, .slice none 0 0] := (blkAt _ _ _ (by simp)).below hb1 (by simp);have q1 := hb1.q1;have hz1 := z1.lt;have H1 := Lib.hid (rd_start HS.out ht (HM.out.belw q1) L0 ⟨rfl, rfl, rfl, rfl⟩);have Z1 := Lib.hid (z1.alloc (.cells #[.slice A n c, .string ⟨#[]⟩, .slice none 0 0, .slice none 0 0, .slice none 0 0, .nilIface] 124));have Q1 := Lib.hid (q1.alloc q1.size (.cells #[.slice A n c, .string ⟨#[]⟩, .slice none 0 0, .slice none 0 0, .slice none 0 0, .nilIface] 124));clear hb1 z1 q1 ht;go_wp2_with fail;(with_reducible refine (rd_expect w1.heap.size _ w1.heap.size _ _ _ _ ⟨l, L0, 0⟩ H1.out.rd 0 0 rfl [108, 105, 110, 107, 97, 103, 101]).mono ?_); rintro e w2 ⟨rfl, h2, hg2⟩;have H2 := Lib.hid (H1.out.call h2 hg2 (expect_stp _ 0 _).sameL (expect_stp _ 0 _).1);have B2 := H1.out.below hg2;have Z2 := Lib.hid (Z1.out.below B2 hz1);have Q2 := Lib.hid (Q1.out.trans (B2.mono (by omega)));have hl2 := h2.lt;clear h2 hg2 B2 Z1 Q1 H1;generalize hgr : w1.heap.size = gr at hz1 H2 hl2 ⊢;have hs1 : (⟨l, L0, 0⟩ : PS).expect 0 [108, 105, 110, 107, 97, 103, 101] = (⟨l, L0, 0⟩ : PS).expect 0 wLinkage := rfl;rw [hs1] at H2;clear hs1;have HR1 := HR.out;unfold readL at HR1;simp only at HR1;have hst1 := expect_stp (⟨l, L0, 0⟩ : PS) 0 wLinkage;generalize (⟨l, L0, 0⟩ : PS).expect 0 wLinkage = s1 at H2 HR1 hst1;have HR2 := Lib.hid HR1;have HST1 := Lib.hid hst1;clear HR1 hst1 HR;go_wp2_with fail;(with_reducible refine (rd_word gr _ gr _ _ _ _ s1 H2.out.rd).mono ?_); rintro e w3 ⟨rfl, h3, hg3⟩;have hnm := word_nm H2.out.rd.txt;have H3 := Lib.hid (H2.out.call h3 hg3 (word_stp _).sameL (word_stp _).1);have B3 := H2.out.below hg3;have Z3 := Lib.hid (Z2.out.below B3 hz1);have Q3 := Lib.hid (Q2.out.trans (B3.mono (by omega)));have H3n := Lib.hid (H3.out.name s1.word.1 hnm);have hl3 := h3.lt;obtain ⟨cn1, _, _, _, fn1, _⟩ := h3.cells;clear h3 hg3 B3 hnm;go_wp2_with fail;clear cn1 fn1;(with_reducible refine (rd_sign gr _ gr _ _ _ _ _ H3n.out.rd [59]).mono ?_); rintro e w4 ⟨rfl, h4, hg4⟩;have H4 := Lib.hid (H3n.out.call h4 hg4 (expect_stp _ 2 _).sameL (expect_stp _ 2 _).1);have B4 := H3n.out.below hg4;have hz3 := Z3.out.far (p := ⟨gr, 1, none⟩) (by show w.heap.size ≠ gr; omega) (strV s1.word.1);have Z4 := Lib.hid (hz3.below B4 hz1);have Q4 := Lib.hid ((Q3.out.setCell (p := ⟨gr, 1, none⟩) (by show w.heap.size ≤ gr; omega) (strV s1.word.1)).trans (B4.mono (by omega)))
 have hlen : s1.word.2.toks.length < l.length + 1 := by
  have h1 := HST1.out.1;have h2 := (word_stp s1).1;have h3 : s1.toks.length ≤ l.length := h1;omega
 have hst4 := (expect_stp (⟨s1.word.2.toks, ⟨s1.word.1, s1.word.2.L.bodies, s1.word.2.L.joints, s1.word.2.L.drivers⟩, s1.word.2.x⟩ : PS) 2 [59]).1;clear h4 hg4 B4 H3n H3 H2 Z2 Q2 Z3 Q3 hz3 HST1;generalize (⟨s1.word.2.toks, ⟨s1.word.1, s1.word.2.L.bodies, s1.word.2.L.joints, s1.word.2.L.drivers⟩, s1.word.2.x⟩ : PS).expect 2 [59] = s4 at H4 HR2 hst4
 have hlen4 : s4.toks.length < l.length + 1 := by
  have h3 : s4.toks.length ≤ s1.word.2.toks.length := hst4;omega
 clear hst4 hlen;go_wp2_with fail;go_loopw [] (fun wr => ∃ f s' A n c A' n' c' A'' n'' c'', RdL gr wr gr s' A n c A' n' c' A'' n'' c'' ∧ (s'.x = 0 → s'.toks.length < f) ∧ Hid (PS.items f s' = R) ∧ Below w.heap.size w wr ∧ Blk wr w.heap.size 36 #[.string ⟨#[]⟩, .slice none 0 0, .slice none 0 0, .slice none 0 0]) (fun wr => mOf gr wr)
 case atStart => exact ⟨l.length + 1, s4, _, _, _, _, _, _, _, _, _, H4.out, fun _ => hlen4, HR2, Q4.out, Z4.out⟩
 case round =>
  clear H4 HR2 Q4 Z4 hlen4;obtain ⟨f, s', A, n, c, A', n', c', A'', n'', c'', hrd, hf, HRr, hq, hz⟩ := hrel;rename World => wr;have HRD := Lib.hid hrd;have HQ := Lib.hid hq;have HZ := Lib.hid hz;have HF := Lib.hid hf;clear hrd hq hz hf;by_cases hmr : s'.x = 0 ∧ s'.toks ≠ []
  ·have HMR := Lib.hid hmr
   clear hmr;go_wp2_with fail;(with_reducible refine (rd_more gr _ gr _ _ _ _ s' HRD.out.rd true (by simp only [HMR.out, and_self, decide_true, ne_eq, not_false_eq_true])).mono ?_); rintro e w5 ⟨rfl, h5, hg5⟩;have H5 := Lib.hid (HRD.out.call h5 hg5 rfl (Nat.le_refl _));have B5 := HRD.out.below hg5;clear h5 hg5;go_wp2_with fail;(with_reducible refine (rd_item gr _ gr s' A n c A' n' c' A'' n'' c'' H5.out).mono ?_); rintro e w6 ⟨rfl, ⟨A5, n5, c5, A6, n6, c6, A7, n7, c7, h6⟩, hb6⟩;have H6 := Lib.hid h6;have B6 := B5.trans hb6;clear h6 hb6;go_wp2_with fail;have hil := item_len s';have hff := HF.out HMR.out.1;have hst := items_step (f := f) (by omega) HMR.out;rw [HRr.out] at hst;go_roundw
   case rel => exact ⟨f - 1, s'.item, _, _, _, _, _, _, _, _, _, H6.out, fun hx => by have := hil.2 hx; omega, Lib.hid hst.symm, HQ.out.trans (B6.mono (by omega)), HZ.out.below B6 hz1⟩
   case measure =>
    rw [H6.out.rd.meas, HRD.out.rd.meas, if_pos HMR.out.1];have h8 := hil.1;by_cases hx : s'.item.x = 0
    ·have h9 := hil.2 hx
     rw [if_pos hx]; omega
    rw [if_neg hx]; omega
  have hend := items_end (f := f) hmr;rw [HRr.out] at hend;subst hend;have HMR := Lib.hid hmr;clear hmr;go_wp2_with fail;(with_reducible refine (rd_more gr _ gr _ _ _ _ R HRD.out.rd false (decide_eq_false HMR.out)).mono ?_); rintro e w5 ⟨rfl, h5, hg5⟩;have B5 := HRD.out.below hg5;have H5 := Lib.hid (HRD.out.call h5 hg5 rfl (Nat.le_refl _));have Q5 := Lib.hid (HQ.out.trans (B5.mono (by omega)));have z5 := HZ.out.below B5 hz1;have Z5 := Lib.hid z5;obtain ⟨D5, m5, d5, hb5, _⟩ := h5.blk;obtain ⟨_, g1, g2, g3, g4, g5⟩ := hb5.c6;have hl5 := h5.lt;obtain ⟨cz0, cz1, cz2, cz3⟩ := z5.c4;obtain ⟨fz0, fz1, fz2, fz3⟩ := z5.f4;have hne : ¬ gr = w.heap.size := by omega
  clear h5 hg5 B5 z5 hb5 HRD HQ HZ HMR HF;rcases HH.out with ⟨hx, rfl, rfl⟩ | ⟨hx, hc, rfl, rfl⟩ | ⟨hx, hc, rfl, rfl⟩
  ·rw [eVp hx] at g5
   have HX := Lib.hid hx;clear hx;go_wp2_with fail;go_region
   all_goals
    go_wp2_with fail;refine bodyPost_ret (v := .tuple #[.agg #[.string ⟨#[]⟩, .slice none 0 0, .slice none 0 0, .slice none 0 0], .iface 57 (.int .i64 R.x)]) (by simp [results, Tryz.results23, go_sem, *] <;> trivial) rfl ?_;rw [eVp HX.out];exact ⟨_, _, _, _, _, _, _, _, _, rfl, lk_zero _ _, by first | exact bel4 Q5.out (Nat.le_refl _) _ _ _ _ | exact bel4 Q5.out.drew (Nat.le_refl _) _ _ _ _⟩
  ·rw [hx, errV_0] at g5
   clear hx;have HCK := Lib.hid hc;clear hc;go_wp2_with fail;(with_reducible refine (m_check _ A n c A' n' c' A'' n'' c'' R.L 130 H5.out.lk (by decide) (by decide) _ rfl).mono ?_); rintro e w6 ⟨rfl, hb6⟩;rw [eVp HCK.out];have z6 := Z5.out.below hb6 (by omega);obtain ⟨cy0, cy1, cy2, cy3⟩ := z6.c4;obtain ⟨fy0, fy1, fy2, fy3⟩ := z6.f4;have Q6 := Lib.hid (Q5.out.trans (hb6.mono Q5.out.size));clear hb6 z6 cz0 cz1 cz2 cz3 fz0 fz1 fz2 fz3 g1 g2 g3 g4 g5;go_wp2_with fail;refine bodyPost_ret (v := .tuple #[.agg #[.string ⟨#[]⟩, .slice none 0 0, .slice none 0 0, .slice none 0 0], .iface 57 (.int .i64 (lkErr R.L))]) (by simp [results, Tryz.results23, go_sem, *] <;> trivial) rfl ?_;rw [eVp HCK.out];exact ⟨_, _, _, _, _, _, _, _, _, rfl, lk_zero _ _, bel4 Q6.out (Nat.le_refl _) _ _ _ _⟩
  rw [hx, errV_0] at g5;clear hx;have HCK := Lib.hid hc;clear hc;go_wp2_with fail;(with_reducible refine (m_check _ A n c A' n' c' A'' n'' c'' R.L 130 H5.out.lk (by decide) (by decide) 0 HCK.out).mono ?_); rintro e w6 ⟨rfl, hb6⟩;rw [errV_0];have z6 := Z5.out.below hb6 (by omega);obtain ⟨cy0, cy1, cy2, cy3⟩ := z6.c4;obtain ⟨fy0, fy1, fy2, fy3⟩ := z6.f4;have H6 := Lib.hid (H5.out.belw hb6);have Z6 := Lib.hid z6;obtain ⟨k1, k2, k3, k4, _⟩ := H6.out.rd.cells;have Q6 := Lib.hid (Q5.out.trans (hb6.mono Q5.out.size));clear hb6 z6 cz0 cz1 cz2 cz3 fz0 fz1 fz2 fz3 g1 g2 g3 g4 g5;go_wp2_with fail;refine bodyPost_ret (v := .tuple #[.agg #[strV R.L.name, .slice A n c, .slice A' n' c', .slice A'' n'' c''], .nilIface]) (by simp [results, Tryz.results23, go_sem, *] <;> trivial) rfl ?_;exact ⟨_, _, _, _, _, _, _, _, _, rfl, H6.out.lkA (tch4 Z6.out ⟨rfl, rfl, rfl, rfl⟩ _ _ _ _), bel4 Q6.out (Nat.le_refl _) _ _ _ _⟩
theorem ps_linkage (w : World) (s : List UInt8) (x : Int) (L : LinkL) (hmx : Mx w) (h : ReadOut s x L) : Calls Tryz.prog 23 #[strV s] w (RetLkE w (errV x) L) := by
 rcases h with ⟨l, hs, hx, rfl⟩ | ⟨l, hs, hr, hx, rfl⟩ | ⟨l, hs, hr, hc, hx, rfl⟩ | ⟨l, hs, hr, hc, rfl, rfl⟩
 ·exact p_linkage_1 w s x l hs hx
 ·exact p_linkage_2 w s l hmx hs x L0 (.inl ⟨by rw [hr]; exact hx, hr.symm, rfl⟩)
 ·exact p_linkage_2 w s l hmx hs x L0 (.inr (.inl ⟨hr, by rw [hc]; exact hx, hc.symm, rfl⟩))
 exact p_linkage_2 w s l hmx hs 0 _ (.inr (.inr ⟨hr, hc, rfl, rfl⟩))
noncomputable def readB (l : List Tkn) : BodyL × PS :=
  let b := ((⟨l, L0, 0⟩ : PS).expect 0 wBody).body
  (b.1, if b.2.x = 0 ∧ b.2.toks ≠ [] then b.2.fail 2 else b.2)
def B0 : BodyL := ⟨[], []⟩
inductive BodyOut (s : List UInt8) (x : Int) (b : BodyL) : Prop
  | split (l : List Tkn) (hs : SplitOut s x l) (hx : x ≠ 0) (hb : b = B0)
  | read (l : List Tkn) (hs : SplitOut s 0 l) (hr : (readB l).2.x = x) (hx : x ≠ 0) (hb : b = B0)
  | ok (l : List Tkn) (hs : SplitOut s 0 l) (hr : (readB l).2.x = 0) (hx : x = 0) (hb : b = (readB l).1)
theorem bodyOut (s : List UInt8) : ∃ x b, BodyOut s x b := by
 obtain ⟨x, l, h⟩ := splitOut s;by_cases hx : x = 0
 ·subst hx
  by_cases hr : (readB l).2.x = 0
  ·exact ⟨_, _, .ok l h hr rfl rfl⟩
  exact ⟨_, _, .read l h rfl hr rfl⟩
 exact ⟨_, _, .split l h hx rfl⟩
theorem BodyOut.uniq {s : List UInt8} {x y : Int} {b d : BodyL} (h : BodyOut s x b) (h' : BodyOut s y d) : x = y ∧ b = d := by
 cases h with
 | split l hs hx hL =>
  cases h' with
  | split l' hs' hx' hL' => exact ⟨(hs.uniq hs').1, by rw [hL, hL']⟩
  | read l' hs' _ _ _ => exact absurd (hs.uniq hs').1 hx
  | ok l' hs' _ _ _ => exact absurd (hs.uniq hs').1 hx
 | read l hs hr hx hL =>
  cases h' with
  | split l' hs' hx' hL' => exact absurd (hs.uniq hs').1.symm hx'
  | read l' hs' hr' hx' hL' =>
   obtain ⟨_, rfl⟩ := hs.uniq hs';exact ⟨hr.symm.trans hr', by rw [hL, hL']⟩
  | ok l' hs' hr' _ _ =>
   obtain ⟨_, rfl⟩ := hs.uniq hs';exact absurd (hr.symm.trans hr') hx
 | ok l hs hr hx hL =>
  cases h' with
  | split l' hs' hx' hL' => exact absurd (hs.uniq hs').1.symm hx'
  | read l' hs' hr' hx' hL' =>
   obtain ⟨_, rfl⟩ := hs.uniq hs';exact absurd (hr'.symm.trans hr) hx'
  | ok l' hs' hr' hx' hL' =>
   obtain ⟨_, rfl⟩ := hs.uniq hs';exact ⟨by rw [hx, hx'], by rw [hL, hL']⟩
def RetBdE (w : World) (v : Value) (b : BodyL) (e : Ending) (w' : World) : Prop :=
  ∃ A n c, e = .returned (.tuple #[.agg #[strV b.name, .slice A n c], v]) ∧ SlS (MkAt 130) 7 w' A n c b.pts ∧ NmL b.name ∧ Below w.heap.size w w'
theorem tch2 {w : World} {g : Nat} {t : TypeId} {a0 a1 : Value} (z : Blk w g t #[a0, a1]) (hz : noW a0 = true ∧ noW a1 = true) (u0 u1 : Value) : Tch (TOne t) w ((w.setCell ⟨g, 0, none⟩ u0).setCell ⟨g, 1, none⟩ u1) :=
 Tch.of_ne (by simp [World.setCell]) z (by simp [TOne]) (by simp [hz]) fun g' _ hne => by
  rw [Below.heap_setCell _ _ _ _ hne, Below.heap_setCell _ _ _ _ hne]
theorem nm_nil : NmL [] := by show ([] : List UInt8).length < _; decide
theorem bd_zero (w : World) (k : Nat) : SlS (MkAt k) 7 w none 0 0 B0.pts := ⟨rfl, Nat.le_refl _, fun h => absurd h (by omega)⟩
theorem bel2 {B g : Nat} {a w : World} (h : Below B a w) (hB : B ≤ g) (u0 u1 : Value) : Below B a ((w.setCell ⟨g, 0, none⟩ u0).setCell ⟨g, 1, none⟩ u1) := (h.setCell (p := ⟨g, 0, none⟩) hB u0).setCell (p := ⟨g, 1, none⟩) hB u1
theorem p_body_1 (w : World) (s : List UInt8) (x : Int) (l : List Tkn) (hs : SplitOut s x l) (hx : x ≠ 0) : Calls Tryz.prog 26 #[strV s] w (RetBdE w (errV x) B0) := by
 have HS := Lib.hid hs;have HX := Lib.hid hx;rw [eVp hx];clear hs hx;go_enter Tryz.func26, Tryz.ntmps26;go_wp2_with fail;(with_reducible refine (t_split_x _ s x l HS.out).mono ?_); rintro e w1 ⟨A, n, c, rfl, _, hb1⟩;rw [eVp HX.out];have z1 : Blk w1 w.heap.size 45 #[.string ⟨#[]⟩, .slice none 0 0] := (blkAt _ _ _ (by simp)).below hb1 (by simp);have cz0 := z1.c2;have fz0 := z1.f2;have q1 := hb1.q1;clear hb1 z1;go_wp2_with fail;refine bodyPost_ret (v := .tuple #[.agg #[.string ⟨#[]⟩, .slice none 0 0], .iface 57 (.int .i64 x)]) (by simp [results, Tryz.results26, go_sem, *] <;> trivial) rfl ?_;exact ⟨_, _, _, rfl, bd_zero _ _, nm_nil, bel2 q1 (Nat.le_refl _) _ _⟩
theorem p_body_2 (w : World) (s : List UInt8) (l : List Tkn) (hmx : Mx w) (hs : SplitOut s 0 l) (x : Int) (b : BodyL) (h : ((readB l).2.x ≠ 0 ∧ x = (readB l).2.x ∧ b = B0) ∨ ((readB l).2.x = 0 ∧ x = 0 ∧ b = (readB l).1)) : Calls Tryz.prog 26 #[strV s] w (RetBdE w (errV x) b) := by
 have HS := Lib.hid hs;have HM := Lib.hid hmx;have HH := Lib.hid h;clear hs hmx h;go_enter Tryz.func26, Tryz.ntmps26;go_wp2_with fail;(with_reducible refine (t_split_x _ s 0 l HS.out).mono ?_); rintro e w1 ⟨A, n, c, rfl, ht, hb1⟩;rw [errV_0];have z1 : Blk w1 w.heap.size 45 #[.string ⟨#[]⟩, .slice none 0 0] := (blkAt _ _ _ (by simp)).below hb1 (by simp);have q1 := hb1.q1;have hz1 := z1.lt;have H1 := Lib.hid (rd_start HS.out ht (HM.out.belw q1) L0 ⟨rfl, rfl, rfl, rfl⟩).rd;have Z1 := Lib.hid (z1.alloc (.cells #[.slice A n c, .string ⟨#[]⟩, .slice none 0 0, .slice none 0 0, .slice none 0 0, .nilIface] 124));have Q1 := Lib.hid (q1.alloc q1.size (.cells #[.slice A n c, .string ⟨#[]⟩, .slice none 0 0, .slice none 0 0, .slice none 0 0, .nilIface] 124));clear hb1 z1 q1 ht;go_wp2_with fail;(with_reducible refine (rd_expect w1.heap.size _ w1.heap.size _ _ _ _ ⟨l, L0, 0⟩ H1.out 0 0 rfl [98, 111, 100, 121]).mono ?_); rintro e w2 ⟨rfl, h2, hg2⟩;have B2 : Below w1.heap.size _ w2 := rg_bel hg2 (by simp) (Nat.le_refl _);have Z2 := Lib.hid (Z1.out.below B2 hz1);have Q2 := Lib.hid (Q1.out.trans (B2.mono (by omega)));have hl2 := h2.lt;have H2 := Lib.hid h2;clear h2 hg2 B2 Z1 Q1 H1;generalize hgr : w1.heap.size = gr at hz1 H2 hl2 ⊢;have hs1 : (⟨l, L0, 0⟩ : PS).expect 0 [98, 111, 100, 121] = (⟨l, L0, 0⟩ : PS).expect 0 wBody := rfl;rw [hs1] at H2;clear hs1;have h := HH.out;unfold readB at h;simp only at h;generalize (⟨l, L0, 0⟩ : PS).expect 0 wBody = s1 at H2 h;have HH2 := Lib.hid h;clear h HH;go_wp2_with fail;(with_reducible refine (rd_body gr _ gr _ _ _ _ s1 H2.out).mono ?_); rintro e w3 ⟨A3, n3, c3, rfl, hm3, hnm3, h3, hg3⟩;have B3 : Below gr _ w3 := rg_bel hg3 (by omega) (Nat.le_refl _);have Z3 := Lib.hid (Z2.out.below B3 hz1);have Q3 := Lib.hid (Q2.out.trans (B3.mono (by omega)));have hl3 := h3.lt;have H3 := Lib.hid h3;have M3 := Lib.hid hm3;have N3 := Lib.hid hnm3;clear h3 hg3 B3 hm3 hnm3 Z2 Q2 H2 hl2;have h := HH2.out;generalize s1.body = sb at H3 M3 N3 h ⊢;have HH3 := Lib.hid h;clear h HH2;go_wp2_with fail;obtain ⟨v, hv⟩ : ∃ v, decide (sb.2.x = 0 ∧ sb.2.toks ≠ []) = v := ⟨_, rfl⟩;have HV := Lib.hid hv;clear hv;(with_reducible refine (rd_more gr _ gr _ _ _ _ sb.2 (H3.out.alloc _) v HV.out).mono ?_); rintro e w4 ⟨rfl, h4, hg4⟩;have B4 : Below gr w3 w4 := ((Below.refl gr w3).alloc (by omega) _).trans (rg_bel hg4 (by simp; omega) (Nat.le_refl _));have x4 : Blk w4 w3.heap.size 45 #[strV sb.1.name, .slice A3 n3 c3] := rg_blk hg4 (Blk.new _ _ _) (by omega);have t4 : Tch (TOne 124) w3 w4 := (Tch.below ((Below.refl _ _).alloc (Nat.le_refl _) _)).trans ((H3.out.alloc _).tchR hg4);have M4 := Lib.hid (M3.out.tch t4 (by decide));have z4 := Z3.out.below B4 hz1;have Z4 := Lib.hid z4;have Q4 := Lib.hid (Q3.out.trans (B4.mono (by omega)));have H4 := Lib.hid h4;have hl4 := h4.lt;obtain ⟨D4, m4, e4, hb4, ht4⟩ := h4.blk;have HB4 := Lib.hid hb4;have HT4 := Lib.hid ht4;obtain ⟨_, _, _, _, _, g5⟩ := hb4.c6;obtain ⟨cz0, cz1⟩ := z4.c2;obtain ⟨fz0, fz1⟩ := z4.f2;obtain ⟨cx0, cx1⟩ := x4.c2;have hne1 : ¬ gr = w.heap.size := by omega
 have hne2 : ¬ w3.heap.size = w.heap.size := by omega
 have hne3 : ¬ gr = w3.heap.size := by omega
 clear h4 hg4 B4 t4 z4 hb4 ht4 H3 M3 Z3 Q3;cases v
 ·have hn := of_decide_eq_false HV.out
  have h := HH3.out;rw [if_neg hn] at h;clear hn;rcases h with ⟨hx, rfl, rfl⟩ | ⟨hx, rfl, rfl⟩
  ·have HX := Lib.hid hx
   rw [eVp hx] at g5;clear hx
   all_goals
    go_wp2_with fail;go_region
    all_goals
     go_wp2_with fail;refine bodyPost_ret (v := .tuple #[.agg #[.string ⟨#[]⟩, .slice none 0 0], .iface 57 (.int .i64 sb.2.x)]) (by simp [results, Tryz.results26, go_sem, *] <;> trivial) rfl ?_;rw [eVp HX.out];exact ⟨_, _, _, rfl, bd_zero _ _, nm_nil, by first | exact bel2 Q4.out (Nat.le_refl _) _ _ | exact bel2 Q4.out.drew (Nat.le_refl _) _ _⟩
  rw [hx, errV_0] at g5;clear hx;go_wp2_with fail;refine bodyPost_ret (v := .tuple #[.agg #[strV sb.1.name, .slice A3 n3 c3], .nilIface]) (by simp [results, Tryz.results26, go_sem, *] <;> trivial) rfl ?_;rw [errV_0];have t5 := tch2 Z4.out ⟨rfl, rfl⟩ (strV sb.1.name) (.slice A3 n3 c3);exact ⟨_, _, _, rfl, (M4.out.tch t5 (by decide)).sl fun _ _ _ p => p, N3.out, bel2 Q4.out (Nat.le_refl _) _ _⟩
 have hn := of_decide_eq_true HV.out;have h := HH3.out;have e2 : sb.2.fail 2 = { sb.2 with x := 2 } := if_pos hn.1;rw [if_pos hn, e2] at h;rcases h with ⟨_, rfl, rfl⟩ | ⟨hx, _⟩
 ·have HX0 := Lib.hid hn.1
  clear hn e2 g5;go_wp2_with fail;(with_reducible refine (rd_fail _ gr (.slice D4 m4 e4) _ _ _ _ sb.2.x 2 HB4.out (by decide)).mono ?_); rintro e w5 ⟨rfl, hb5, hg5⟩;rw [if_pos HX0.out, errV_2] at hb5;obtain ⟨_, _, _, _, _, g5⟩ := hb5.c6;have B5 : Below gr w4 w5 := rg_bel hg5 (by omega) (Nat.le_refl _);have z5 := Z4.out.below B5 hz1;have Q5 := Lib.hid (Q4.out.trans (B5.mono (by omega)));have hl5 := hb5.lt;clear cz0 cz1 fz0 fz1 cx0 cx1;obtain ⟨cz0, cz1⟩ := z5.c2;obtain ⟨fz0, fz1⟩ := z5.f2;clear hb5 hg5 B5 z5
  all_goals
   go_wp2_with fail;go_region
   all_goals
    go_wp2_with fail;refine bodyPost_ret (v := .tuple #[.agg #[.string ⟨#[]⟩, .slice none 0 0], .iface 57 (.int .i64 2)]) (by simp [results, Tryz.results26, go_sem, *] <;> trivial) rfl ?_;rw [errV_2];exact ⟨_, _, _, rfl, bd_zero _ _, nm_nil, by first | exact bel2 Q5.out (Nat.le_refl _) _ _ | exact bel2 Q5.out.drew (Nat.le_refl _) _ _⟩
 exact absurd (show (2 : Int) = 0 from hx) (by decide)
theorem ps_body (w : World) (s : List UInt8) (x : Int) (b : BodyL) (hmx : Mx w) (h : BodyOut s x b) : Calls Tryz.prog 26 #[strV s] w (RetBdE w (errV x) b) := by
 rcases h with ⟨l, hs, hx, rfl⟩ | ⟨l, hs, hr, hx, rfl⟩ | ⟨l, hs, hr, rfl, rfl⟩
 ·exact p_body_1 w s x l hs hx
 ·exact p_body_2 w s l hmx hs x B0 (.inl ⟨by rw [hr]; exact hx, hr.symm, rfl⟩)
 exact p_body_2 w s l hmx hs 0 _ (.inr ⟨hr, rfl, rfl⟩)
/-! The tokens of a linkage. -/
def markK (m : MarkL) : List (Nat × List UInt8) := [(0, m.name), (1, ratText m.x.q), (1, ratText m.y.q), (2, [59])]
def bodyK (b : BodyL) : List (Nat × List UInt8) := (0, wBody) :: (0, b.name) :: (2, [123]) :: (b.pts.flatMap markK ++ [(2, [125])])
def fullK (bs : List BodyL) (i j : Int) : List (Nat × List UInt8) := match bs[i.toNat]? with
  | some b => (match b.pts[j.toNat]? with | some m => [(0, b.name), (2, [46]), (0, m.name)] | none => [])
  | none => []
def jointK (bs : List BodyL) (j : JointL) : List (Nat × List UInt8) :=
  (0, if j.kind = 1 then wSlide else wPin) :: (0, j.name) :: (fullK bs j.a j.point ++ (fullK bs j.b j.on ++ ((if j.kind = 1 then fullK bs j.b j.to_ else []) ++ [(2, [59])])))
def driverK (bs : List BodyL) (d : DriverL) : List (Nat × List UInt8) := [(0, wDriver), (0, d.name), (0, nameT bs d.body), (2, [59])]
def lkToks (L : LinkL) : List (Nat × List UInt8) := (0, wLinkage) :: (0, L.name) :: (2, [59]) :: (L.bodies.flatMap bodyK ++ (L.joints.flatMap (jointK L.bodies) ++ L.drivers.flatMap (driverK L.bodies)))
theorem fullK_v {bs : List BodyL} {i j : Nat} {b : BodyL} {m : MarkL} (hb : bs[i]? = some b) (hm : b.pts[j]? = some m) : fullK bs (i : Nat) (j : Nat) = [(0, b.name), (2, [46]), (0, m.name)] := by
 unfold fullK;show (match bs[i]? with | some b => (match b.pts[j]? with | some m => [(0, b.name), (2, [46]), (0, m.name)] | none => []) | none => []) = _;rw [hb];show (match b.pts[j]? with | some m => [(0, b.name), (2, [46]), (0, m.name)] | none => []) = _;rw [hm]
/-! Splitting. -/
theorem hd_c {p : UInt8 → Prop} {c : UInt8} {t : List UInt8} (h : p c) : ∀ c' t', c :: t = c' :: t' → p c' := fun c' t' e => by injection e with e _; subst e; exact h
def MkN (m : MarkL) : Prop := (ratText m.x.q).length ≤ 60 ∧ (ratText m.y.q).length ≤ 60
theorem Spl.mark {m : MarkL} {s : List UInt8} {K : List (Nat × List UInt8)} (hm : nameOk m.name = true) (hn : MkN m) (h : Spl s K) : Spl (markText m ++ s) (markK m ++ K) := by
 unfold markText markK;simp only [List.cons_append, List.append_assoc, List.nil_append];exact .blank (.word hm (hd_c (by decide)) (.blank (.num hn.1 (hd_c (.inl rfl)) (.blank (.num hn.2 (hd_c (.inr rfl)) (.sign (by decide) h))))))
theorem Spl.marks {s : List UInt8} {K : List (Nat × List UInt8)} (h : Spl s K) : ∀ {l : List MarkL}, (∀ m ∈ l, nameOk m.name = true ∧ MkN m) → Spl (l.flatMap markText ++ s) (l.flatMap markK ++ K)
 | [], _ => h
 | m :: l, hl => by
  rw [List.flatMap_cons, List.flatMap_cons, List.append_assoc, List.append_assoc];have := hl m (by simp);exact .mark this.1 this.2 (Spl.marks h fun x hx => hl x (by simp [hx]))
theorem Spl.body {b : BodyL} {s : List UInt8} {K : List (Nat × List UInt8)} (hb : nameOk b.name = true) (hp : ∀ m ∈ b.pts, nameOk m.name = true ∧ MkN m) (h : Spl s K) : Spl (bodyText b ++ s) (bodyK b ++ K) := by
 unfold bodyText bodyK;simp only [List.cons_append, List.append_assoc, List.nil_append];have hm : Spl (b.pts.flatMap markText ++ 32 :: 125 :: s) (b.pts.flatMap markK ++ (2, [125]) :: K) := Spl.marks (.blank (.sign (by decide) h)) hp;exact Spl.word (x := wBody) (by decide) (hd_c (by decide)) (.blank (.word hb (hd_c (by decide)) (.blank (.sign (by decide) hm))))
theorem Spl.full {bs : List BodyL} {i j : Nat} {b : BodyL} {m : MarkL} (hb : bs[i]? = some b) (hm : b.pts[j]? = some m) (n1 : nameOk b.name = true) (n2 : nameOk m.name = true) {s : List UInt8} {K : List (Nat × List UInt8)} (hs : ∀ c t, s = c :: t → isPart c = false) (h : Spl s K) : Spl (fullT bs (i : Nat) (j : Nat) ++ s) (fullK bs (i : Nat) (j : Nat) ++ K) := by
 rw [fullT_v hb hm, fullK_v hb hm];simp only [List.cons_append, List.append_assoc, List.nil_append];exact .word n1 (hd_c (by decide)) (.sign (by decide) (.word n2 hs h))
theorem Spl.joint {bs : List BodyL} (hB : ∀ b ∈ bs, BdF b) {j : JointL} (hn : nameOk j.name = true) (hj : JointOk bs j) {s : List UInt8} {K : List (Nat × List UInt8)} (h : Spl s K) : Spl (jointText bs j ++ s) (jointK bs j ++ K) := by
 obtain ⟨_, a, b, p, o, x, y, m1, m2, ea, eb, ep, eo, hx, hy, hm1, hm2, hk⟩ := hj;have bx := hB x (List.mem_of_getElem? hx);have by_ := hB y (List.mem_of_getElem? hy);have n1 := (bx.pts m1 (List.mem_of_getElem? hm1)).name;have n2 := (by_.pts m2 (List.mem_of_getElem? hm2)).name;unfold jointText jointK jointWords;rcases hk with ⟨k0, _⟩ | ⟨k1, t, m3, et, hm3⟩
 ·rw [if_neg (by omega), if_neg (by omega), if_neg (by omega), ea, eb, ep, eo]
  simp only [joinT, List.cons_append, List.append_assoc, List.nil_append];exact Spl.word (x := wPin) (by decide) (hd_c (by decide)) (.blank (.word hn (hd_c (by decide)) (.blank (.full hx hm1 bx.name n1 (hd_c (by decide)) (.blank (.full hy hm2 by_.name n2 (hd_c (by decide)) (.sign (by decide) (.line h))))))))
 have n3 := (by_.pts m3 (List.mem_of_getElem? hm3)).name;rw [if_pos k1, if_pos k1, if_pos k1, ea, eb, ep, eo, et];simp only [joinT, List.cons_append, List.append_assoc, List.nil_append];exact Spl.word (x := wSlide) (by decide) (hd_c (by decide)) (.blank (.word hn (hd_c (by decide)) (.blank (.full hx hm1 bx.name n1 (hd_c (by decide)) (.blank (.full hy hm2 by_.name n2 (hd_c (by decide)) (.blank (.full hy hm3 by_.name n3 (hd_c (by decide)) (.sign (by decide) (.line h))))))))))
theorem Spl.driver {bs : List BodyL} (hB : ∀ b ∈ bs, BdF b) {d : DriverL} (hn : nameOk d.name = true) (hd : DriverOk bs d) {s : List UInt8} {K : List (Nat × List UInt8)} (h : Spl s K) : Spl (driverText bs d ++ s) (driverK bs d ++ K) := by
 obtain ⟨_, i, b, ei, hb⟩ := hd;have bb := hB b (List.mem_of_getElem? hb);unfold driverText driverK;rw [ei, nameT_v hb];simp only [List.cons_append, List.append_assoc, List.nil_append];exact Spl.word (x := wDriver) (by decide) (hd_c (by decide)) (.blank (.word hn (hd_c (by decide)) (.blank (.word bb.name (hd_c (by decide)) (.sign (by decide) (.line h))))))
theorem Spl.list {α : Type} {f : α → List UInt8} {g : α → List (Nat × List UInt8)} {s : List UInt8} {K : List (Nat × List UInt8)} (h : Spl s K) : ∀ {l : List α}, (∀ a ∈ l, ∀ s K, Spl s K → Spl (f a ++ s) (g a ++ K)) → Spl (l.flatMap f ++ s) (l.flatMap g ++ K)
 | [], _ => h
 | a :: l, hl => by
  rw [List.flatMap_cons, List.flatMap_cons, List.append_assoc, List.append_assoc];exact hl a (by simp) _ _ (Spl.list h fun x hx => hl x (by simp [hx]))
theorem long_not {l : List BodyL} (h : longL l ≠ true) : ∀ b ∈ l, ∀ m ∈ b.pts, MkN m := by
 intro b hb m hm
 have h1 : ¬ longM m = true := fun h2 => h (by
  unfold longL;rw [List.any_eq_true]
  exact ⟨b, hb, List.any_eq_true.2 ⟨m, hm, h2⟩⟩)
 unfold longM at h1;simp only [Bool.or_eq_true, decide_eq_true_eq, not_or] at h1;exact ⟨by omega, by omega⟩
theorem Spl.out {s : List UInt8} {K : List (Nat × List UInt8)} (h : Spl s K) (hl : s.length ≤ 65536) : ∃ l, SplitOut s 0 l ∧ kt l = K := by
 have h1 := h 1 1;have e : tk s 1 1 = tokens s := rfl;rw [e] at h1
 cases ht : tokens s with
 | err x => rw [ht] at h1; cases h1
 | ok l =>
  rw [ht] at h1;injection h1 with h1;exact ⟨l, .ok hl ht rfl, h1⟩
/-! Reading. -/
theorem AtK.mark {s : PS} {m : MarkL} {K : List (Nat × List UInt8)} {L : LinkL} (h : AtK s (markK m ++ K) L) (hn : MkN m) (hF : MkF m) (hW : MkW m) : s.mark.1 = m ∧ AtK s.mark.2 K L := by
 obtain ⟨e1, h1⟩ := AtK.word h;obtain ⟨vx, vq⟩ := val_rat hn.1;obtain ⟨wx, wq⟩ := val_rat hn.2;obtain ⟨e2, h2⟩ := h1.number vx;obtain ⟨e3, h3⟩ := h2.number wx;unfold PS.mark;refine ⟨?_, h3.expect⟩;rw [e1, e2, e3, vq, wq, rd_of_ok hW.1.1 hW.1.2 hF.x, rd_of_ok hW.2.1 hW.2.2 hF.y]
theorem AtK.marks : ∀ {l : List MarkL} {f : Nat} {s : PS} {p : List MarkL} {K : List (Nat × List UInt8)} {L : LinkL}, (∀ m ∈ l, MkN m ∧ MkF m ∧ MkW m) → l.length < f → AtK s (l.flatMap markK ++ (2, [125]) :: K) L → (PS.marks f s p).1 = p ++ l ∧ AtK (PS.marks f s p).2 K L
 | [], f, s, p, K, L, _, hf, h => by
  have hs : s.signHead = true := by
   obtain ⟨u, r, e, e1, _, _⟩ := AtK.head (k := 2) (t := [125]) (K := K) h;unfold PS.signHead;rw [e];show (u.kind == 2) = true;rw [e1]; rfl
  rw [marks_end (by omega) h.x hs];exact ⟨by simp, AtK.expect h⟩
 | m :: l, f, s, p, K, L, hl, hf, h => by
  rw [List.flatMap_cons, List.append_assoc] at h
  have hs : s.signHead = false := by
   obtain ⟨u, r, e, e1, _, _⟩ := AtK.head (k := 0) (t := m.name) h;unfold PS.signHead;rw [e];show (u.kind == 2) = false;rw [e1]; rfl
  rw [List.length_cons] at hf;rw [marks_step (by omega) h.x hs];obtain ⟨h1, h2, h3⟩ := hl m (by simp);obtain ⟨e1, h4⟩ := AtK.mark h h1 h2 h3;obtain ⟨e2, h5⟩ := AtK.marks (l := l) (f := f - 1) (p := p ++ [s.mark.1]) (fun x hx => hl x (by simp [hx])) (by omega) h4;refine ⟨?_, h5⟩;rw [e2, e1]; simp
theorem kt_len (l : List Tkn) : (kt l).length = l.length := by unfold kt; simp
theorem marksK_len : ∀ (l : List MarkL), l.length ≤ (l.flatMap markK).length
 | [] => by simp
 | m :: l => by
  have := marksK_len l;rw [List.flatMap_cons, List.length_append, List.length_cons];show _ ≤ 4 + _;omega
theorem AtK.body {s : PS} {b : BodyL} {K : List (Nat × List UInt8)} {L : LinkL} (h : AtK s ((0, b.name) :: (2, [123]) :: (b.pts.flatMap markK ++ (2, [125]) :: K)) L) (hb : ∀ m ∈ b.pts, MkN m ∧ MkF m ∧ MkW m) : s.body.1 = b ∧ AtK s.body.2 K L := by
 have hlen : b.pts.length < s.toks.length + 1 := by
  have h1 := congrArg List.length h.k;rw [kt_len] at h1;have := marksK_len b.pts;simp only [List.length_cons, List.length_append] at h1;omega
 obtain ⟨e1, h1⟩ := h.word;obtain ⟨e2, h2⟩ := AtK.marks (p := []) hb hlen h1.expect;refine ⟨?_, h2⟩;show (⟨s.word.1, (PS.marks (s.toks.length + 1) (s.word.2.expect 2 [123]) []).1⟩ : BodyL) = b;rw [e1, e2];rfl
theorem find_at {α : Type} {nm : α → List UInt8} {l : List α} (hd : ∀ {i j : Nat} {a b : α}, l[i]? = some a → l[j]? = some b → nm a = nm b → i = j) {i : Nat} {a : α} (ha : l[i]? = some a) : l.findIdx? (fun b => nm b == nm a) = some i := by
 obtain ⟨hi, e⟩ := List.getElem?_eq_some_iff.1 ha;rw [List.findIdx?_eq_some_iff_getElem];refine ⟨hi, by rw [e]; simp, fun j hj => ?_⟩;intro h;have h2 : nm l[j] = nm a := by simpa using h
 have := hd (List.getElem?_eq_getElem (by omega : j < l.length)) ha h2;omega
theorem AtK.named {s : PS} {K : List (Nat × List UInt8)} {L : LinkL} {nm : List UInt8} {i : Nat} {only : Int} (h : AtK s ((0, nm) :: K) L) (hf : findB L.bodies nm = some i) (ho : only < 0 ∨ only = (i : Int)) : (s.named only).1 = (i : Int) ∧ AtK (s.named only).2 K L := by
 obtain ⟨e1, h1⟩ := h.word;unfold PS.named;simp only;rw [if_neg (by rw [h1.x]; simp), e1, h1.l, hf];show (i : Int) = (i : Int) ∧ AtK (if 0 ≤ only ∧ (i : Int) ≠ only then s.word.2.fail 7 else s.word.2) K L;rw [if_neg (by rcases ho with h | h; omega; rw [h]; simp)];exact ⟨rfl, h1⟩
theorem AtK.full {s : PS} {K : List (Nat × List UInt8)} {L : LinkL} {i j : Nat} {b : BodyL} {m : MarkL} {only : Int} (hb : L.bodies[i]? = some b) (hm : b.pts[j]? = some m) (h : AtK s (fullK L.bodies (i : Nat) (j : Nat) ++ K) L) (hf : findB L.bodies b.name = some i) (hg : findM b.pts m.name = some j) (ho : only < 0 ∨ only = (i : Int)) : (s.full only).1 = (i : Int) ∧ (s.full only).2.1 = (j : Int) ∧ AtK (s.full only).2.2 K L := by
 rw [fullK_v hb hm] at h;obtain ⟨e1, h1⟩ := AtK.named (K := (2, [46]) :: (0, m.name) :: K) h hf ho;obtain ⟨e2, h2⟩ := h1.expect.word;unfold PS.full;simp only;rw [if_neg (by rw [h2.x]; simp), e1, e2, h2.l, ptsAt_v (n := i) rfl hb, hg];exact ⟨rfl, rfl, h2⟩
theorem AtK.addJ {s : PS} {K : List (Nat × List UInt8)} {L : LinkL} (h : AtK s K L) (j : JointL) : AtK (s.addJ j) K { L with joints := L.joints ++ [j] } := ⟨h.x, h.k, by
 show ({ s.L with joints := s.L.joints ++ [j] } : LinkL) = _
 rw [h.l]⟩
theorem AtK.joint {s : PS} {K : List (Nat × List UInt8)} {L : LinkL} (hB : ∀ b ∈ L.bodies, BdF b) (hd : ∀ {i j : Nat} {a b : BodyL}, L.bodies[i]? = some a → L.bodies[j]? = some b → a.name = b.name → i = j) {j : JointL} (hj : JointOk L.bodies j) (h : AtK s (jointK L.bodies j ++ K) L) : AtK s.item K { L with joints := L.joints ++ [j] } := by
 obtain ⟨_, a, b, p, o, x, y, m1, m2, ea, eb, ep, eo, hx, hy, hm1, hm2, hk⟩ := hj;have bx := hB x (List.mem_of_getElem? hx);have by_ := hB y (List.mem_of_getElem? hy);have fx : findB L.bodies x.name = some a := find_at (nm := BodyL.name) hd hx;have fy : findB L.bodies y.name = some b := find_at (nm := BodyL.name) hd hy;have g1 : findM x.pts m1.name = some p := find_at (nm := MarkL.name) bx.dist hm1;have g2 : findM y.pts m2.name = some o := find_at (nm := MarkL.name) by_.dist hm2;unfold jointK at h;rcases hk with ⟨k0, t0⟩ | ⟨k1, t, m3, et, hm3⟩
 ·rw [if_neg (by omega), if_neg (by omega), ea, eb, ep, eo] at h
  simp only [List.cons_append, List.append_assoc, List.nil_append] at h;obtain ⟨e0, h0⟩ := h.word;obtain ⟨e1, h1⟩ := h0.word;obtain ⟨e2, e3, h2⟩ := AtK.full (only := -1) hx hm1 h1 fx g1 (.inl (by decide));obtain ⟨e4, e5, h3⟩ := AtK.full (only := -1) hy hm2 h2 fy g2 (.inl (by decide));unfold PS.item;simp only;rw [e0, if_neg (by decide), if_pos rfl];unfold PS.joint;simp only [Bool.false_eq_true, if_false]
  have hj : (⟨j.name, 0, (a : Int), (p : Int), (b : Int), (o : Int), 0⟩ : JointL) = j := by
   obtain ⟨jn, jk, ja, jp, jb, jo, jt⟩ := j;simp only at ea eb ep eo k0 t0;subst ea eb ep eo k0 t0;rfl
  rw [e1, e2, e3, e4, e5, hj];exact h3.expect.addJ j
 have g3 : findM y.pts m3.name = some t := find_at (nm := MarkL.name) by_.dist hm3;rw [if_pos k1, if_pos k1, ea, eb, ep, eo, et] at h;simp only [List.cons_append, List.append_assoc, List.nil_append] at h;obtain ⟨e0, h0⟩ := h.word;obtain ⟨e1, h1⟩ := h0.word;obtain ⟨e2, e3, h2⟩ := AtK.full (only := -1) hx hm1 h1 fx g1 (.inl (by decide));obtain ⟨e4, e5, h3⟩ := AtK.full (only := -1) hy hm2 h2 fy g2 (.inl (by decide));obtain ⟨e6, e7, h4⟩ := AtK.full (only := (b : Int)) hy hm3 h3 fy g3 (.inr rfl);unfold PS.item;simp only;rw [e0, if_neg (by decide), if_neg (by decide), if_pos rfl];unfold PS.joint;simp only [if_true]
 have hj : (⟨j.name, 1, (a : Int), (p : Int), (b : Int), (o : Int), (t : Int)⟩ : JointL) = j := by
  obtain ⟨jn, jk, ja, jp, jb, jo, jt⟩ := j;simp only at ea eb ep eo k1 et;subst ea eb ep eo k1 et;rfl
 rw [e4, e1, e2, e3, e5, e7, hj];exact h4.expect.addJ j
theorem AtK.driver {s : PS} {K : List (Nat × List UInt8)} {L : LinkL} (hd : ∀ {i j : Nat} {a b : BodyL}, L.bodies[i]? = some a → L.bodies[j]? = some b → a.name = b.name → i = j) {d : DriverL} (hj : DriverOk L.bodies d) (h : AtK s (driverK L.bodies d ++ K) L) : AtK s.item K { L with drivers := L.drivers ++ [d] } := by
 obtain ⟨_, i, b, ei, hb⟩ := hj;have fb : findB L.bodies b.name = some i := find_at (nm := BodyL.name) hd hb;unfold driverK at h;rw [ei, nameT_v hb] at h;simp only [List.cons_append, List.nil_append] at h;obtain ⟨e0, h0⟩ := h.word;obtain ⟨e1, h1⟩ := h0.word;obtain ⟨e2, h2⟩ := AtK.named (only := -1) h1 fb (.inl (by decide));unfold PS.item;simp only;rw [e0, if_neg (by decide), if_neg (by decide), if_neg (by decide), if_pos rfl];unfold PS.driver;simp only;refine ⟨h2.expect.x, h2.expect.k, ?_⟩;show ({ (PS.expect _ 2 [59]).L with drivers := _ } : LinkL) = _;rw [h2.expect.l, e1, e2];obtain ⟨dn, db⟩ := d;simp only at ei;subst ei;rfl
theorem AtK.bodyI {s : PS} {K : List (Nat × List UInt8)} {L : LinkL} {b : BodyL} (hb : ∀ m ∈ b.pts, MkN m ∧ MkF m ∧ MkW m) (h : AtK s (bodyK b ++ K) L) : AtK s.item K { L with bodies := L.bodies ++ [b] } := by
 unfold bodyK at h;simp only [List.cons_append, List.append_assoc, List.nil_append] at h;obtain ⟨e0, h0⟩ := h.word;obtain ⟨e1, h1⟩ := AtK.body h0 hb;unfold PS.item;simp only;rw [e0, if_pos rfl];refine ⟨h1.x, h1.k, ?_⟩;show ({ s.word.2.body.2.L with bodies := _ } : LinkL) = _;rw [h1.l, e1]
def FinL (s : PS) (L : LinkL) : Prop := ∀ f, s.toks.length < f → (PS.items f s).x = 0 ∧ (PS.items f s).L = L
theorem FinL.nil {s : PS} {L : LinkL} (h : AtK s [] L) : FinL s L := fun f _ => by
 have e : s.toks = [] := List.eq_nil_of_length_eq_zero (by have := congrArg List.length h.k; rw [kt_len] at this; simpa using this);rw [items_end (by rw [e]; simp)];exact ⟨h.x, h.l⟩
theorem FinL.step {s : PS} {p : Nat × List UInt8} {K K' : List (Nat × List UInt8)} {M M' L : LinkL} (h : AtK s (p :: K) M) (h' : AtK s.item K' M') (k : FinL s.item L) : FinL s L := fun f hf => by
 obtain ⟨u, r, e, _, _, _⟩ := AtK.head (k := p.1) (t := p.2) h;have h1 := (item_len s).2 h'.x;rw [items_step (by omega) ⟨h.x, by rw [e]; simp⟩];exact k _ (by omega)
theorem FinL.list {α : Type} {g : α → List (Nat × List UInt8)} (add : LinkL → α → LinkL) (P : LinkL → Prop) {K : List (Nat × List UInt8)} {L : LinkL} : ∀ (l : List α) (s : PS) (M : LinkL), (∀ a ∈ l, ∃ p q, g a = p :: q) → (∀ a ∈ l, ∀ s K M, P M → AtK s (g a ++ K) M → AtK s.item K (add M a) ∧ P (add M a)) → P M → (∀ s, AtK s K (l.foldl add M) → P (l.foldl add M) → FinL s L) → AtK s (l.flatMap g ++ K) M → FinL s L
 | [], s, M, _, _, hp, hk, h => hk s h hp
 | a :: l, s, M, hne, hs, hp, hk, h => by
  rw [List.flatMap_cons, List.append_assoc] at h;obtain ⟨h1, h2⟩ := hs a (by simp) s _ M hp h;obtain ⟨p, q, e⟩ := hne a (by simp);rw [e, List.cons_append] at h;exact FinL.step h h1 (FinL.list add P l s.item (add M a) (fun x hx => hne x (by simp [hx])) (fun x hx => hs x (by simp [hx])) h2 hk h1)
theorem fold_b (l : List BodyL) : ∀ M : LinkL, l.foldl (fun M b => { M with bodies := M.bodies ++ [b] }) M = { M with bodies := M.bodies ++ l } := by
 induction l with
 | nil => intro M; simp
 | cons a l ih => intro M; rw [List.foldl_cons, ih]; simp
theorem fold_j (l : List JointL) : ∀ M : LinkL, l.foldl (fun M b => { M with joints := M.joints ++ [b] }) M = { M with joints := M.joints ++ l } := by
 induction l with
 | nil => intro M; simp
 | cons a l ih => intro M; rw [List.foldl_cons, ih]; simp
theorem fold_d (l : List DriverL) : ∀ M : LinkL, l.foldl (fun M b => { M with drivers := M.drivers ++ [b] }) M = { M with drivers := M.drivers ++ l } := by
 induction l with
 | nil => intro M; simp
 | cons a l ih => intro M; rw [List.foldl_cons, ih]; simp
theorem read_back {l : List Tkn} {L : LinkL} (hk : kt l = lkToks L) (hF : LkF L) (hW : LkW L) (h60 : longL L.bodies ≠ true) : (readL l).x = 0 ∧ (readL l).L = L := by
 have hN := long_not h60;have h0 : AtK (⟨l, L0, 0⟩ : PS) (lkToks L) L0 := ⟨rfl, hk, rfl⟩;unfold lkToks at h0;obtain ⟨e1, h1⟩ := h0.expect.word;unfold readL;simp only
 have h2 : AtK ({ (((⟨l, L0, 0⟩ : PS).expect 0 wLinkage).word.2) with L := { (((⟨l, L0, 0⟩ : PS).expect 0 wLinkage).word.2).L with name := (((⟨l, L0, 0⟩ : PS).expect 0 wLinkage).word.1) } } : PS) ((2, [59]) :: (L.bodies.flatMap bodyK ++ (L.joints.flatMap (jointK L.bodies) ++ L.drivers.flatMap (driverK L.bodies)))) ⟨L.name, [], [], []⟩ := ⟨h1.x, h1.k, by
  show ({ (((⟨l, L0, 0⟩ : PS).expect 0 wLinkage).word.2).L with name := (((⟨l, L0, 0⟩ : PS).expect 0 wLinkage).word.1) } : LinkL) = _
  rw [h1.l, e1]; rfl⟩
 have h3 := h2.expect
 have hl : (({ (((⟨l, L0, 0⟩ : PS).expect 0 wLinkage).word.2) with L := { (((⟨l, L0, 0⟩ : PS).expect 0 wLinkage).word.2).L with name := (((⟨l, L0, 0⟩ : PS).expect 0 wLinkage).word.1) } } : PS).expect 2 [59]).toks.length < l.length + 1 := by
  have a1 := congrArg List.length h3.k;have a2 := congrArg List.length hk;unfold lkToks at a2;rw [kt_len] at a1 a2;rw [a1, a2];simp only [List.length_cons];omega
 generalize ({ (((⟨l, L0, 0⟩ : PS).expect 0 wLinkage).word.2) with L := { (((⟨l, L0, 0⟩ : PS).expect 0 wLinkage).word.2).L with name := (((⟨l, L0, 0⟩ : PS).expect 0 wLinkage).word.1) } } : PS).expect 2 [59] = s at h3 hl ⊢
 have key : FinL s L := by
  refine FinL.list (g := bodyK) (fun M b => { M with bodies := M.bodies ++ [b] }) (fun _ => True) L.bodies s _ (fun b _ => ⟨_, _, rfl⟩) (fun b hb s K M _ h => ⟨AtK.bodyI (fun m hm => ⟨hN b hb m hm, (hF.body b hb).pts m hm, hW b hb m hm⟩) h, trivial⟩) trivial (fun s h _ => ?_) h3;rw [fold_b, List.nil_append] at h;refine FinL.list (g := jointK L.bodies) (fun M b => { M with joints := M.joints ++ [b] }) (fun M => M.bodies = L.bodies) L.joints s ⟨L.name, L.bodies, [], []⟩ (fun b _ => ⟨_, _, rfl⟩) (fun j hj s K M hM h => ⟨?_, hM⟩) rfl (fun s h hM => ?_) h
  ·rw [← hM] at h
   exact AtK.joint (by rw [hM]; exact hF.body) (by rw [hM]; exact hF.dist) (by rw [hM]; exact hF.ok.joint j hj) h
  rw [fold_j, List.nil_append] at h;rw [← List.append_nil (L.drivers.flatMap _)] at h;refine FinL.list (g := driverK L.bodies) (fun M b => { M with drivers := M.drivers ++ [b] }) (fun M => M.bodies = L.bodies) L.drivers s ⟨L.name, L.bodies, L.joints, []⟩ (fun b _ => ⟨_, _, rfl⟩) (fun d hd s K M hM h => ⟨?_, hM⟩) rfl (fun s h _ => ?_) h
  ·rw [← hM] at h
   exact AtK.driver (by rw [hM]; exact hF.dist) (by rw [hM]; exact hF.ok.driver d hd) h
  rw [fold_d, List.nil_append] at h;exact FinL.nil h
 exact key _ hl
def plT (t : Tkn) : Tkn := ⟨t.kind, t.text, 0, 0⟩
def PS.st (s : PS) : PS := { s with toks := s.toks.map plT }
theorem BodyOk.nm {b : BodyL} (h : BodyOk b) : b.name.length ≤ 1000 := by have := h.1; omega
theorem BodyOk.np {b : BodyL} (h : BodyOk b) : b.pts.length ≤ 8 := h.2.1
theorem Blk.strs {w : World} {g t : Nat} {l : List (List UInt8)} (h : Blk w g t (strCs l).toArray) (k : Nat) (x : List UInt8) (hx : l[k]? = some x) : w.cell? ⟨g, k, none⟩ = some (strV x) := by
 rw [h.cell k, List.getElem?_toArray];unfold strCs;rw [List.getElem?_map, hx];rfl
theorem Blk.owns {w : World} {base g t n : Nat} {l : List (List UInt8)} (h : Blk w g t (strCs l).toArray) (hb : base ≤ g) (hl : l.length = n) (hn : n ≤ 1000) : w.ownsRow base t 1 (.slice (some ⟨g, 0, none⟩) n n) n (strCs l) := by
 subst hl;exact ⟨by simp [strCs], .inr ⟨g, _, _, rfl, hb, h, Nat.le_refl _, by unfold maxLen; omega, by simp [strCs], by rw [List.take_of_length_le (by simp [strCs])]⟩⟩
theorem RatAt.words {k : Nat} {w : World} {g o : Nat} {r : RD} (h : RatAt w g o r k) : RdW r := by
 obtain ⟨b, A, n, c, D, m, e, _, _, _, hQ⟩ := h;exact ⟨hQ.2.1.1, hQ.2.2.1.1⟩
theorem SlS.markW {k : Nat} {w : World} {A : Option Addr} {n c : Nat} {l : List MarkL} (h : SlS (MkAt k) 7 w A n c l) : ∀ m ∈ l, MkW m := by
 intro m hm;obtain ⟨i, hi, e⟩ := List.getElem_of_mem hm;obtain ⟨g, o, a, _, _, _, ha, hp⟩ := h.at_ (i := i) (by rw [← h.1]; exact hi);rw [List.getElem?_eq_getElem hi] at ha;injection ha with ha;rw [← ha, e] at hp;exact ⟨hp.2.1.words, hp.2.2.1.words⟩
theorem LkS.words {k : Nat} {w : World} {A B C : Option Addr} {n c p d q e : Nat} {L : LinkL} (h : LkS k w A n c B p d C q e L) : LkW L := by
 intro b hb;obtain ⟨i, hi, e1⟩ := List.getElem_of_mem hb;obtain ⟨g, o, a, _, _, _, ha, hp⟩ := h.bodies.at_ (i := i) (by rw [← h.bodies.1]; exact hi);rw [List.getElem?_eq_getElem hi] at ha;injection ha with ha;rw [← ha, e1] at hp;obtain ⟨A', n', c', _, _, hM, _⟩ := hp;exact hM.markW
theorem RatAt.small {K k : Nat} {w : World} {g o : Nat} {r : RD} (h : RatAt w g o r K) (h1 : r.num.length ≤ k) (h2 : r.den.length ≤ k) : RatAt w g o r k := by
 obtain ⟨b, A, n, c, D, m, e, c1, c2, c3, hQ⟩ := h;refine ⟨b, A, n, c, D, m, e, c1, c2, c3, hQ.1, hQ.2.1, hQ.2.2.1, ?_, ?_⟩
 ·rw [hQ.2.1.2.1]; exact h1
 rw [hQ.2.2.1.2.1]; exact h2
theorem SlS.mono_ {α : Type} {P P' : World → Nat → Nat → α → Prop} {s : Nat} {w : World} {A : Option Addr} {n c : Nat} {l : List α} (h : SlS P s w A n c l) (hP : ∀ g o a, a ∈ l → P w g o a → P' w g o a) : SlS P' s w A n c l := by
 refine ⟨h.1, h.2.1, fun hn => ?_⟩;obtain ⟨g, o, e, hg, h3⟩ := h.2.2 hn;exact ⟨g, o, e, hg, fun i a ha => hP _ _ _ (List.mem_of_getElem? ha) (h3 i a ha)⟩
def mkO : MarkL := ⟨[79], rd 0, rd 0⟩
def mkC : MarkL := ⟨[67], rd 4, rd 0⟩
def mkA : MarkL := ⟨[65], rd 1, rd (1 / 2)⟩
def bdF : BodyL := ⟨[102, 114, 97, 109, 101], [mkO, mkC]⟩
def bdC : BodyL := ⟨[99, 114, 97, 110, 107], [mkO, mkA]⟩
def exL : LinkL := ⟨[109], [bdF, bdC], [⟨[106], 0, 1, 0, 0, 0, 0⟩], [⟨[100], 1⟩]⟩
theorem ex_err : lkErr exL = 0 := by decide +kernel
structure FltB where
  a : Nat
  s : Nat
  T : TypeId
  Z : Array Value
  PS : Array Value → World → Prop
structure OwnB where
  g : Nat
  s : Nat
  o : Nat
  T : TypeId
  Z : Array Value
  PS : Array Value → World → Prop
def LinB (ops : Array Oper) (fr : (Nat → Value) → Act) (R : Nat → Value → World → Prop) (es : List FltB) (ow : List OwnB) (B : Nat) (W : World) (L : Array Bool) (a : Act) (w : World) : Prop :=
  ∃ x, a = fr x ∧ (Below B W w ∧ Below B W w) ∧ (∀ i, L.getD i false = true → R i (x i) w) ∧
  (∀ i o, ops[i]? = some o → L.getD i false = true → ∀ e ∈ o.after, Region.binds .any e = true → L.getD e.on false = true) ∧
  (∀ f ∈ es, L.getD f.a false = true → ∃ g c, x f.a = .pointer (some ⟨g, 0, none⟩) ∧ W.heap.size ≤ g ∧ Blk w g f.T c ∧ (L.getD f.s false = false → c = f.Z) ∧ (L.getD f.s false = true → f.PS c w)) ∧
  (∀ f ∈ es, ∀ f' ∈ es, f.a ≠ f'.a → L.getD f.a false = true → L.getD f'.a false = true → x f.a ≠ x f'.a) ∧
  (∀ f ∈ ow, ∃ c, Blk w f.g f.T c ∧ (L.getD f.s false = false → c = f.Z) ∧ (L.getD f.s false = true → f.PS c w))

section
variable (P : Program) (ops : Array Oper) (Q : Exit → Act → World → Prop) (fr : (Nat → Value) → Act) (R : Nat → Value → World → Prop) (es : List FltB) (ow : List OwnB) (B : Nat) (W : World)
def ValStepB (i : Nat) (o : Oper) : Prop := (∀ f ∈ es, i ≠ f.a ∧ i ≠ f.s) ∧ (∀ f ∈ ow, i ≠ f.s) ∧
  ∀ x w, Below B W w → (∀ f ∈ ow, (∀ o', ops[f.s]? = some o' → ∃ e ∈ o'.after, Region.binds .any e = true ∧ e.on = i) → Blk w f.g f.T f.Z) → (∀ e ∈ o.after, Region.binds .any e = true → R e.on (x e.on) w) → ∀ K' : Act → World → Prop, Shut (∀ v w', R i v w' → Below w.heap.size w w' → K' ((fr x).put o.dst v) w') →
    if Region.wanted o (yielded ops (fr x).tmps) = true then Oper.wp P o (fr x) w K' Q else K' ((fr x).put o.dst undef) w
def AllocStepB (i : Nat) (o : Oper) : Prop := ∃ f ∈ es, i = f.a ∧ (∀ f' ∈ es, i ≠ f'.s) ∧ (∀ f' ∈ ow, i ≠ f'.s) ∧ (∀ f' ∈ es, f'.a = i → f' = f) ∧ (∀ v w, R i v w) ∧
  ∀ x w, ∀ K' : Act → World → Prop, Shut (K' ((fr x).put o.dst (.pointer (some ⟨w.heap.size, 0, none⟩))) (w.alloc (.cells f.Z f.T))) →
    if Region.wanted o (yielded ops (fr x).tmps) = true then Oper.wp P o (fr x) w K' Q else K' ((fr x).put o.dst undef) w
def StoreStepB (i : Nat) (o : Oper) : Prop := ∃ f ∈ es, i = f.s ∧ (∀ f' ∈ es, i ≠ f'.a) ∧ (∀ f' ∈ ow, i ≠ f'.s) ∧ (∀ f' ∈ es, f'.s = i → f' = f) ∧ (∀ f' ∈ es, f'.a = f.a → f' = f) ∧ True ∧ (∀ v w, R i v w) ∧ (∃ e ∈ o.after, Region.binds .any e = true ∧ e.on = f.a) ∧
  ∀ x w g, x f.a = .pointer (some ⟨g, 0, none⟩) → Blk w g f.T f.Z → (∀ e ∈ o.after, Region.binds .any e = true → R e.on (x e.on) w) →
    ∃ us, (∀ w', Below B w w' → f.PS (setL f.Z 0 us) w') ∧ ∀ K' : Act → World → Prop, Shut (∀ v, K' ((fr x).put o.dst v) (setFrom w g 0 us)) →
      if Region.wanted o (yielded ops (fr x).tmps) = true then Oper.wp P o (fr x) w K' Q else K' ((fr x).put o.dst undef) w
def OwnStepB (i : Nat) (o : Oper) : Prop := ∃ f ∈ ow, i = f.s ∧ (∀ f' ∈ es, i ≠ f'.a ∧ i ≠ f'.s) ∧ (∀ f' ∈ ow, f'.s = i → f' = f) ∧ True ∧ (∀ v w, R i v w) ∧
  ∀ x w, Blk w f.g f.T f.Z → (∀ e ∈ o.after, Region.binds .any e = true → R e.on (x e.on) w) →
    ∃ us, (∀ w', Below B w w' → f.PS (setL f.Z f.o us) w') ∧ ∀ K' : Act → World → Prop, Shut (∀ v, K' ((fr x).put o.dst v) (setFrom w f.g f.o us)) →
      if Region.wanted o (yielded ops (fr x).tmps) = true then Oper.wp P o (fr x) w K' Q else K' ((fr x).put o.dst undef) w
end
section
variable {P : Program} {ops : Array Oper} {Q : Exit → Act → World → Prop} {fr : (Nat → Value) → Act} {R : Nat → Value → World → Prop} {es : List FltB} {ow : List OwnB} {B : Nat}
theorem wp_region_own {id : Nat} {w : World} {x0 : Nat → Value} (hm : P.follows .mixedOrders = true)
 (hput : ∀ i o, ops[i]? = some o → ∀ x v, (fr x).put o.dst v = fr (upd x i v))
 (hac : ∀ i o, ops[i]? = some o → ∀ e ∈ o.after, Region.binds .any e = true → e.on < i)
 (hR : ∀ i v w w', R i v w → Below B w w' → R i v w')
 (hPS : ∀ f ∈ es, ∀ c w w', f.PS c w → Below B w w' → f.PS c w')
 (hPO : ∀ f ∈ ow, ∀ c w w', f.PS c w → Below B w w' → f.PS c w')
 (hfs : ∀ f ∈ es, f.a < ops.size ∧ f.s < ops.size)
 (hB : B ≤ w.heap.size)
 (hO : ∀ f ∈ ow, Blk w f.g f.T f.Z ∧ B ≤ f.g)
 (hOd : ∀ f ∈ ow, ∀ f' ∈ ow, f.g = f'.g → f = f')
 (hstep : ∀ i o, ops[i]? = some o → ValStepB P ops Q fr R es ow B w i o ∨ AllocStepB P ops Q fr R es ow i o ∨ StoreStepB P ops Q fr R es ow B i o ∨ OwnStepB P ops Q fr R es ow B i o)
 (hend : ∀ x w', Below B w w' → Below B w w' → w.heap.size ≤ w'.heap.size → (∀ f ∈ ow, ∃ c, Blk w' f.g f.T c ∧ (ops.size ≤ f.s → c = f.Z) ∧ (f.s < ops.size → f.PS c w')) → (∀ i, i < ops.size → R i (x i) w') → (∀ f ∈ es, ∃ g c, x f.a = .pointer (some ⟨g, 0, none⟩) ∧ w.heap.size ≤ g ∧ Blk w' g f.T c ∧ f.PS c w') → (∀ f ∈ es, ∀ f' ∈ es, f.a ≠ f'.a → x f.a ≠ x f'.a) → Q .normal (fr x) w') :
 (Code.region id ops true).wp P Q (fr x0) w := by
 refine wp_region_any hm (wpAny_inv (fun L a w' => w.heap.size ≤ w'.heap.size ∧ LinB ops fr R es ow B w L a w') ?_ ?_ _ _ _ _ (by simp) ?_ ?_)
 ·rintro L a w1 i hs hi ⟨hsz, x, rfl, ⟨hkW, hb⟩, hr, hcl, hf, hd, how⟩
  obtain ⟨hun, o, ho, hall⟩ := mem_ready.1 hi
  have hlt : i < L.size := by
   rcases Nat.lt_or_ge i L.size with h | h
   ·exact h
   rw [Array.getD_eq_getD_getElem?, Array.getElem?_eq_none h] at hun; cases hun
  have hunf : L.getD i false = false := by
   rw [Array.getD_eq_getD_getElem?, Array.getElem?_eq_getElem hlt] at hun ⊢; exact hun
  have hdep : ∀ e ∈ o.after, Region.binds .any e = true → R e.on (x e.on) w1 := fun e he hbd => hr _ (hall e he hbd)
  have hcl' : ∀ i' o', ops[i']? = some o' → (L.setIfInBounds i true).getD i' false = true → ∀ e ∈ o'.after, Region.binds .any e = true → (L.setIfInBounds i true).getD e.on false = true := by
   intro i' o' ho' hl e he hbd;rw [getD_set hlt] at hl ⊢;by_cases h : i' = i
   ·subst h; rw [ho] at ho'; injection ho' with ho'; subst ho'
    rw [hall e he hbd]; simp
   have : L.getD i' false = true := by simpa [h] using hl
   rw [hcl i' o' ho' this e he hbd]; simp
  refine wpOp_step ho fun K' hK => ?_
  have hsno : ∀ f ∈ ow, (∀ o', ops[f.s]? = some o' → ∃ e ∈ o'.after, Region.binds .any e = true ∧ e.on = i) → Blk w1 f.g f.T f.Z := by
   intro f hfo hdd;obtain ⟨c, c1, c2, _⟩ := how f hfo
   have : L.getD f.s false = false := by
    cases h : L.getD f.s false
    ·rfl
    exfalso
    have hlt2 : f.s < ops.size := by
     rcases Nat.lt_or_ge f.s L.size with h2 | h2
     ·omega
     rw [Array.getD_eq_getD_getElem?, Array.getElem?_eq_none h2] at h; cases h
    obtain ⟨e, he, hbd, hea⟩ := hdd _ (Array.getElem?_eq_getElem hlt2);have := hcl f.s _ (Array.getElem?_eq_getElem hlt2) h e he hbd;rw [hea, hunf] at this; cases this
   rw [← c2 this]; exact c1
  have howk : ∀ w', Below B w1 w' → (∀ g t c, Blk w1 g t c → (∃ f ∈ ow, f.g = g) → Blk w' g t c) → (∀ f ∈ ow, i ≠ f.s) → ∀ f ∈ ow, ∃ c, Blk w' f.g f.T c ∧ ((L.setIfInBounds i true).getD f.s false = false → c = f.Z) ∧ ((L.setIfInBounds i true).getD f.s false = true → f.PS c w') := by
   intro w' hkp hbl hne f hfo;obtain ⟨c, c1, c2, c3⟩ := how f hfo;have n2 := hne f hfo;refine ⟨c, hbl _ _ _ c1 ⟨f, hfo, rfl⟩, fun h => c2 ?_, fun h => hPO f hfo _ _ _ (c3 ?_) hkp⟩
   ·rw [getD_set hlt] at h; simpa [Ne.symm n2] using h
   rw [getD_set hlt] at h; simpa [Ne.symm n2] using h
  rcases hstep i o ho with ⟨hno, hnow, hv⟩ | ⟨f, hf1, rfl, hnos, hnow, huniq, hRi, hv⟩ | ⟨f, hf1, rfl, hnoa, hnow, huniq, huniqa, hT, hRi, ⟨e, he, hbd, hea⟩, hv⟩ | ⟨f, hf1, rfl, hnoe, huniq, hT, hRi, hv⟩
  ·refine hv x w1 hkW hsno hdep K' (fun v w' hRv hbw => hK _ _ ?_)
   have hkp : Below B w1 w' := (hbw.mono (Nat.le_trans hB hsz));refine ⟨Nat.le_trans hsz hbw.size, upd x i v, hput i o ho x v, ⟨hkW.trans hkp, hb.trans (hbw.mono (Nat.le_trans hB hsz))⟩, fun j hj => ?_, hcl', fun f hfe hfa => ?_, fun f hfe f' hfe' hne h1 h2 => ?_, howk w' hkp (fun g t c h _ => h.below hbw h.lt) hnow⟩
   ·by_cases h : j = i
    ·subst h; rw [upd_same]; exact hRv
    rw [upd_ne _ _ h]; rw [getD_set hlt] at hj; exact hR _ _ _ _ (hr j (by simpa [h] using hj)) hkp
   ·rw [getD_set hlt] at hfa
    have n1 := (hno f hfe).1;have n2 := (hno f hfe).2;rw [upd_ne _ _ (Ne.symm n1)];obtain ⟨g, c, e1, e2, e3, e4, e5⟩ := hf f hfe (by simpa [Ne.symm n1] using hfa);refine ⟨g, c, e1, e2, e3.below hbw e3.lt, fun h => e4 ?_, fun h => hPS f hfe _ _ _ (e5 ?_) hkp⟩
    ·rw [getD_set hlt] at h; simpa [Ne.symm n2] using h
    rw [getD_set hlt] at h; simpa [Ne.symm n2] using h
   rw [getD_set hlt] at h1 h2;have n1 := (hno f hfe).1;have n2 := (hno f' hfe').1;rw [upd_ne _ _ (Ne.symm n1), upd_ne _ _ (Ne.symm n2)];exact hd f hfe f' hfe' hne (by simpa [Ne.symm n1] using h1) (by simpa [Ne.symm n2] using h2)
  ·refine hv x w1 K' (hK _ _ ?_)
   have hkp : Below B w1 (w1.alloc (.cells f.Z f.T)) := ((Below.refl B w1).alloc (Nat.le_trans hB hsz) _)
   have hsl : L.getD f.s false = false := by
    cases h : L.getD f.s false
    ·rfl
    exfalso;obtain ⟨o', ho'⟩ : ∃ o', ops[f.s]? = some o' := ⟨_, Array.getElem?_eq_getElem (hfs f hf1).2⟩;rcases hstep f.s o' ho' with ⟨hno, _⟩ | ⟨f2, hf2, e2, hnos2, _⟩ | ⟨f2, hf2, e2, _, _, hu2, _, _, _, ⟨e, he, hbd, hea⟩, _⟩ | ⟨f2, hf2, e2, hno2, _⟩
    ·exact (hno f hf1).2 rfl
    ·exact hnos2 f hf1 rfl
    ·have := hu2 f hf1 rfl
     subst this;have := hcl f.s o' ho' h e he hbd;rw [hea] at this;rw [this] at hunf; cases hunf
    exact (hno2 f hf1).2 rfl
   refine ⟨by simp; omega, upd x f.a _, hput f.a o ho x _, ⟨hkW.alloc (Nat.le_trans hB hsz) _, hb.alloc (Nat.le_trans hB hsz) _⟩, fun j hj => ?_, hcl', fun f' hfe hfa => ?_, fun f1 hfe f2 hfe' hne h1 h2 => ?_, howk _ hkp (fun g t c h _ => h.alloc _) hnow⟩
   ·by_cases h : j = f.a
    ·subst h; exact hRi _ _
    rw [upd_ne _ _ h]; rw [getD_set hlt] at hj; exact hR _ _ _ _ (hr j (by simpa [h] using hj)) hkp
   ·by_cases h : f'.a = f.a
    ·have := huniq f' hfe h
     subst this;rw [upd_same];refine ⟨_, _, rfl, hsz, Blk.new _ _ _, fun _ => rfl, fun h' => ?_⟩;rw [getD_set hlt, hsl] at h';have : f'.s = f'.a := by simpa using h'
     exact absurd this.symm (hnos f' hfe)
    rw [upd_ne _ _ h];rw [getD_set hlt] at hfa;have n2 := hnos f' hfe;obtain ⟨g, c, e1, e2, e3, e4, e5⟩ := hf f' hfe (by simpa [h] using hfa);refine ⟨g, c, e1, e2, e3.alloc _, fun h => e4 ?_, fun h => hPS f' hfe _ _ _ (e5 ?_) hkp⟩
    ·rw [getD_set hlt] at h; simpa [Ne.symm n2] using h
    rw [getD_set hlt] at h; simpa [Ne.symm n2] using h
   rw [getD_set hlt] at h1 h2
   have fresh : ∀ f3 ∈ es, f3.a ≠ f.a → L.getD f3.a false = true → x f3.a ≠ .pointer (some ⟨w1.heap.size, 0, none⟩) := by
    intro f3 h3 hne3 hl3 heq;obtain ⟨g, c, e1, e2, e3, _⟩ := hf f3 h3 hl3;rw [e1] at heq;have hg := e3.lt;injection heq with heq; injection heq with heq; injection heq with heq;omega
   by_cases c1 : f1.a = f.a
   ·have c2 : f2.a ≠ f.a := fun h => hne (c1.trans h.symm)
    rw [c1, upd_same, upd_ne _ _ c2];exact (fresh f2 hfe' c2 (by simpa [c2] using h2)).symm
   rw [upd_ne _ _ c1];by_cases c2 : f2.a = f.a
   ·rw [c2, upd_same]; exact fresh f1 hfe c1 (by simpa [c1] using h1)
   rw [upd_ne _ _ c2]; exact hd f1 hfe f2 hfe' hne (by simpa [c1] using h1) (by simpa [c2] using h2)
  ·have hal : L.getD f.a false = true := by rw [← hea]; exact hall e he hbd
   obtain ⟨g, c, e1, e2, e3, e4, e5⟩ := hf f hf1 hal;have hc := e4 hunf;subst hc;obtain ⟨us, hus, hv⟩ := hv x w1 g e1 e3 hdep;refine hv K' (fun v => hK _ _ ?_);have hkp : Below B w1 (setFrom w1 g 0 us) := setFrom_below (Nat.le_trans hB e2) us 0 w1 (Below.refl _ _);have hnb : ∀ f3 ∈ es, f3.a ≠ f.s := fun f3 h3 h => hnoa f3 h3 h.symm
   refine ⟨Nat.le_trans hsz (Nat.le_of_eq (setFrom_size us 0 w1).symm), upd x f.s v, hput f.s o ho x v, ⟨hkW.trans hkp, setFrom_below (Nat.le_trans hB e2) us 0 w1 hb⟩, fun j hj => ?_, hcl', fun f' hfe hfa => ?_, fun f1 hfe f2 hfe' hne h1 h2 => ?_, howk _ hkp (fun g2 t c h hex => setFrom_far (by obtain ⟨f2, h2, rfl⟩ := hex; have := (hO f2 h2).1.lt; omega) us 0 w1 h) hnow⟩
   ·by_cases h : j = f.s
    ·subst h; exact hRi _ _
    rw [upd_ne _ _ h]; rw [getD_set hlt] at hj; exact hR _ _ _ _ (hr j (by simpa [h] using hj)) hkp
   ·rw [upd_ne _ _ (hnb f' hfe)]
    rw [getD_set hlt] at hfa;by_cases h : f'.a = f.a
    ·have := huniqa f' hfe h
     subst this;refine ⟨g, _, e1, e2, setFrom_blk us 0 w1 _ e3, fun h' => ?_, fun _ => hus _ hkp⟩;rw [getD_set hlt] at h'; simp at h'
    have n2 : f'.s ≠ f.s := fun h2 => h (by rw [huniq f' hfe h2])
    obtain ⟨g', c', d1, d2, d3, d4, d5⟩ := hf f' hfe (by simpa [hnb f' hfe] using hfa)
    have hgg : g' ≠ g := by
     rintro rfl;exact hd f' hfe f hf1 h (by simpa [hnb f' hfe] using hfa) hal (d1.trans e1.symm)
    refine ⟨g', c', d1, d2, setFrom_far hgg us 0 w1 d3, fun h => d4 ?_, fun h => hPS f' hfe _ _ _ (d5 ?_) hkp⟩
    ·rw [getD_set hlt] at h; simpa [n2] using h
    rw [getD_set hlt] at h; simpa [n2] using h
   rw [getD_set hlt] at h1 h2;rw [upd_ne _ _ (hnb f1 hfe), upd_ne _ _ (hnb f2 hfe')];exact hd f1 hfe f2 hfe' hne (by simpa [hnb f1 hfe] using h1) (by simpa [hnb f2 hfe'] using h2)
  obtain ⟨c, c1, c2, _⟩ := how f hf1;have hc := c2 hunf;subst hc;obtain ⟨us, hus, hv⟩ := hv x w1 c1 hdep;refine hv K' (fun v => hK _ _ ?_);have hkp : Below B w1 (setFrom w1 f.g f.o us) := setFrom_below (hO f hf1).2 us f.o w1 (Below.refl _ _);have hna : ∀ f3 ∈ es, f3.a ≠ f.s := fun f3 h3 h => (hnoe f3 h3).1 h.symm
  have hns : ∀ f3 ∈ es, f3.s ≠ f.s := fun f3 h3 h => (hnoe f3 h3).2 h.symm
  have hgl := (hO f hf1).1.lt;refine ⟨Nat.le_trans hsz (Nat.le_of_eq (setFrom_size us f.o w1).symm), upd x f.s v, hput f.s o ho x v, ⟨hkW.trans hkp, setFrom_below (hO f hf1).2 us f.o w1 hb⟩, fun j hj => ?_, hcl', fun f' hfe hfa => ?_, fun f1 hfe f2 hfe' hne h1 h2 => ?_, fun f' hfo => ?_⟩
  ·by_cases h : j = f.s
   ·subst h; exact hRi _ _
   rw [upd_ne _ _ h]; rw [getD_set hlt] at hj; exact hR _ _ _ _ (hr j (by simpa [h] using hj)) hkp
  ·rw [upd_ne _ _ (hna f' hfe)]
   rw [getD_set hlt] at hfa;have n2 := hns f' hfe;obtain ⟨g', c', d1, d2, d3, d4, d5⟩ := hf f' hfe (by simpa [hna f' hfe] using hfa);refine ⟨g', c', d1, d2, setFrom_far (by omega) us f.o w1 d3, fun h => d4 ?_, fun h => hPS f' hfe _ _ _ (d5 ?_) hkp⟩
   ·rw [getD_set hlt] at h; simpa [n2] using h
   rw [getD_set hlt] at h; simpa [n2] using h
  ·rw [getD_set hlt] at h1 h2
   rw [upd_ne _ _ (hna f1 hfe), upd_ne _ _ (hna f2 hfe')];exact hd f1 hfe f2 hfe' hne (by simpa [hna f1 hfe] using h1) (by simpa [hna f2 hfe'] using h2)
  by_cases h : f'.s = f.s
  ·have := huniq f' hfo h
   subst this;refine ⟨_, setFrom_blk us f'.o w1 _ c1, fun h' => ?_, fun _ => hus _ hkp⟩;rw [getD_set hlt] at h'; simp at h'
  obtain ⟨c', d3, d4, d5⟩ := how f' hfo;have hgg : f'.g ≠ f.g := fun h2 => h (by rw [hOd f' hfo f hf1 h2])
  refine ⟨c', setFrom_far hgg us f.o w1 d3, fun h2 => d4 ?_, fun h2 => hPO f' hfo _ _ _ (d5 ?_) hkp⟩
  ·rw [getD_set hlt] at h2; simpa [h] using h2
  rw [getD_set hlt] at h2; simpa [h] using h2
 ·rintro L a w1 hs hr0 ⟨hsz, x, rfl, ⟨hkW, hb⟩, hr, hcl, hf, hd, how⟩
  have hallL : ∀ i, i < ops.size → L.getD i false = true := by
   intro i
   induction i using Nat.strongRecOn with
   | ind i ih =>
    intro hi;cases h : L.getD i false
    ·exfalso
     have : i ∈ Region.ready .any ops L := by
      refine mem_ready.2 ⟨?_, ops[i], Array.getElem?_eq_getElem hi, fun e he hbd => ?_⟩
      ·rw [Array.getD_eq_getD_getElem?, Array.getElem?_eq_getElem (by omega)] at h ⊢; exact h
      have h1 := hac i _ (Array.getElem?_eq_getElem hi) e he hbd;exact ih e.on h1 (by omega)
     rw [hr0] at this; cases this
    rfl
  refine hend x w1 hkW hb hsz (fun f hfo => ?_) (fun i hi => hr i (hallL i hi)) (fun f hfe => ?_) (fun f hfe f' hfe' hne => hd f hfe f' hfe' hne (hallL _ (hfs f hfe).1) (hallL _ (hfs f' hfe').1))
  ·obtain ⟨c, c1, c2, c3⟩ := how f hfo
   refine ⟨c, c1, fun h => c2 ?_, fun h => c3 (hallL _ h)⟩;rw [Array.getD_eq_getD_getElem?, Array.getElem?_eq_none (by omega)]; rfl
  obtain ⟨g, c, e1, e2, e3, _, e5⟩ := hf f hfe (hallL _ (hfs f hfe).1);exact ⟨g, c, e1, e2, e3, e5 (hallL _ (hfs f hfe).2)⟩
 ·simp
 ·have hz : ∀ j, (Array.replicate ops.size false).getD j false = false := by
   intro j; rw [Array.getD_eq_getD_getElem?, Array.getElem?_replicate]; split <;> rfl
  refine ⟨Nat.le_refl _, x0, rfl, ⟨(Below.refl B w).drew, (Below.refl B w).drew⟩, fun i h => ?_, fun i o _ h => ?_, fun f _ h => ?_, fun f _ f' _ _ h => ?_, fun f hfo => ⟨_, (hO f hfo).1.drew, fun _ => rfl, fun h => ?_⟩⟩ <;> rw [hz] at h <;> cases h
end

theorem ownDistB {ow : List OwnB} (h : ow.Pairwise (fun f f' => f.g ≠ f'.g)) : ∀ f ∈ ow, ∀ f' ∈ ow, f.g = f'.g → f = f' := by
 induction ow with
 | nil => intro f hf; cases hf
 | cons a l ih =>
  obtain ⟨h1, h2⟩ := List.pairwise_cons.1 h;intro f hf f' hf' he;rcases List.mem_cons.1 hf with h3 | h3
  ·rcases List.mem_cons.1 hf' with h4 | h4
   ·rw [h3, h4]
   exact absurd (h3 ▸ he) (h1 _ h4)
  rcases List.mem_cons.1 hf' with h4 | h4
  ·exact absurd (h4 ▸ he).symm (h1 _ h3)
  exact ih h2 f h3 f' h4 he
def AllBw (B : Nat) : List (Value → World → Prop) → Prop
  | [] => True
  | p :: l => (∀ v w w', p v w → Below B w w' → p v w') ∧ AllBw B l
theorem AllBw.get {B : Nat} : ∀ (l : List (Value → World → Prop)), AllBw B l → ∀ i v w w', l.getD i (fun _ _ => True) v w → Below B w w' → l.getD i (fun _ _ => True) v w' := by
 intro l
 induction l with
 | nil => intro _ i v w w' _ _; simp
 | cons p l ih =>
  intro h i v w w' hp hk
  cases i with
  | zero => exact h.1 v w w' hp hk
  | succ i => exact ih h.2 i v w w' hp hk
theorem bEq {B : Nat} (u : Value) : ∀ v w w', PEq u v w → Below B w w' → PEq u v w' := fun _ _ _ h _ => h
theorem bAny {B : Nat} : ∀ v w w', PAny v w → Below B w w' → PAny v w' := fun _ _ _ h _ => h
end Go.Proofs.YtmfdifjkjkaheaaGreatDoor
namespace Bn
theorem wd_ext {l l' : List Nat} (hn : l.length = l'.length) (h : ∀ i, i < l.length → wd l i = wd l' i) : l = l' := by
 refine List.ext_getElem hn fun i h1 h2 => ?_
 have := h i h1;rw [wd_get h1, wd_get h2] at this;exact this
theorem wd_ne {l l' : List Nat} (hn : l.length = l'.length) (h : l ≠ l') : ∃ i, i < l.length ∧ wd l i ≠ wd l' i := by
 apply Classical.byContradiction;intro hc;apply h;refine wd_ext hn fun i hi => ?_
 apply Classical.byContradiction;intro e;exact hc ⟨i, hi, e⟩
end Bn

/- Walks: fields that differ. -/
namespace Go.Proofs.YtmfdifjkjkaheaaGreatDoor
open Go Go.RowKit Bn
attribute [local go_sem ↓] Go.wp_at_zero Go.wp_at_succ
theorem b_words_ne (w : World) (A n c l) (wa : Wd w A n c l) (A' n' c' l') (wb : Wd w A' n' c' l') (hne : l ≠ l') (hn : n ≤ 1000000000) (hn' : n' ≤ 1000000000) :
 Calls Tryz.prog 143 #[.slice A n c, .slice A' n' c'] w (RetV w (.bool false)) := by
 by_cases hnn : n' = n
 ·subst hnn
  obtain ⟨j, hj, hjn⟩ := wd_ne (by rw [← wa.2.1, ← wb.2.1]) hne;rw [← wa.2.1] at hj;have HA := Lib.hid wa;have HB := Lib.hid wb;have HJ := Lib.hid hjn;clear wa wb hne hjn;go_enter Tryz.func143, Tryz.ntmps143;go_wp2_with fail;go_loopw [5] (fun iv wr => ∃ (i q : Nat), i ≤ j ∧ iv = .int .i64 (i : Nat) ∧ wr = w.drewN q) (fun iv _ => n' - (intOf iv).toNat)
  case atStart => exact ⟨0, 0, Nat.zero_le _, rfl, rfl⟩
  case round =>
   obtain ⟨i, q, hi, rfl, rfl⟩ := hrel;have hlt : i < n' := by omega
   obtain ⟨g, o, rfl, hc1⟩ := HA.out.at_ (by omega);obtain ⟨g', o', rfl, hc2⟩ := HB.out.at_ (by omega);have h1 := hc1 i hlt;have h2 := hc2 i hlt;have hi0 : (0 : Int) ≤ (i : Int) := by omega
   have hi1 : (i : Int) < (n' : Int) := by omega
   have HIJ := Lib.hid (show i = j → wd l i ≠ wd l' i by rintro rfl; exact HJ.out);generalize wd l i = x at h1 HIJ;generalize wd l' i = y at h2 HIJ;clear hc1 hc2;by_cases hxy : x = y
   ·subst hxy
    have hij : i < j := by
     rcases Nat.lt_or_ge i j with h | h
     ·exact h
     exact absurd rfl (HIJ.out (by omega))
    go_wp2_with fail;go_quiet (fail);go_wp2;go_roundw
    case rel => exact ⟨i + 1, _, by omega, by go_num, rfl⟩
    case measure => simp [intOf]; omega
   have hxy2 : ¬ (x : Int) = (y : Int) := by omega
   go_wp2_with fail;go_quiet (fail);go_wp2;go_ret;exact retB rfl (by repeat (first | exact Below.refl _ _ | refine below_drewN ?_ _))
 have e1 : ((n : Int) == (n' : Int)) = false := by simp; omega
 have e2 : ¬ (n : Int) = (n' : Int) := by omega
 clear wa wb;go_enter Tryz.func143, Tryz.ntmps143;go_wp2_with fail;go_ret;exact retB rfl (brefl w)
theorem b_rat_ne1 (w : World) (b : Bool) (A : Option Addr) (n c : Nat) (D : Option Addr) (m e : Nat) (r : RD) (k : Nat) (h : QD w b A n c D m e r k) (b' : Bool) (A' : Option Addr) (n' c' : Nat) (D' : Option Addr) (m' e' : Nat) (r' : RD) (k' : Nat) (h' : QD w b' A' n' c' D' m' e' r' k') (hne : b ≠ b') (hk : k ≤ 1000000) (hk' : k' ≤ 1000000) :
 Calls Tryz.prog 81 #[.agg #[.bool b, .slice A n c, .slice D m e], .agg #[.bool b', .slice A' n' c', .slice D' m' e']] w (RetV w (.bool false)) := by
 obtain ⟨e1, ha, hd, hk1, hk2⟩ := h;obtain ⟨e1', ha', hd', hk1', hk2'⟩ := h';have HE : (b == b') = false := by simpa using hne
 have HE2 : ¬ b = b' := hne;clear ha hd ha' hd' e1 e1';go_enter Tryz.func81, Tryz.ntmps81;go_wp2_with fail;go_ret;exact retB rfl (((brefl w).alloc (Nat.le_refl _) _).alloc (by simp) _)
theorem b_rat_ne2 (w : World) (b : Bool) (A : Option Addr) (n c : Nat) (D : Option Addr) (m e : Nat) (r : RD) (k : Nat) (h : QD w b A n c D m e r k) (b' : Bool) (A' : Option Addr) (n' c' : Nat) (D' : Option Addr) (m' e' : Nat) (r' : RD) (k' : Nat) (h' : QD w b' A' n' c' D' m' e' r' k') (hbb : b = b') (hne : r.num ≠ r'.num) (hk : k ≤ 1000000) (hk' : k' ≤ 1000000) :
 Calls Tryz.prog 81 #[.agg #[.bool b, .slice A n c, .slice D m e], .agg #[.bool b', .slice A' n' c', .slice D' m' e']] w (RetV w (.bool false)) := by
 obtain ⟨e1, ha, hd, hk1, hk2⟩ := h;obtain ⟨e1', ha', hd', hk1', hk2'⟩ := h';subst hbb;have HE : (b == b) = true := by simp
 have HA := Lib.hid (And.intro ha ha');have HD := Lib.hid (And.intro hd hd');have HN := Lib.hid hne;clear ha ha' hd hd' hne e1 e1';go_enter Tryz.func81, Tryz.ntmps81;go_wp2_with fail;(with_reducible refine (b_words_ne _ A n c r.num ?_ A' n' c' r'.num ?_ ?_ ?_ ?_).mono ?_); (exact HA.out.1.keep (((Kp.refl _).alloc _).alloc _)); (exact HA.out.2.keep (((Kp.refl _).alloc _).alloc _)); (exact HN.out); (omega); (omega); rintro e w1 ⟨rfl, hb⟩;have q1 : Below w.heap.size w w1 := (((Below.refl _ _).alloc (Nat.le_refl _) _).alloc (by simp) _).trans (hb.mono (by simp <;> omega));have x0 : Blk w1 w.heap.size 88 #[.bool b, .slice A n c, .slice D m e] := ((blkAt w _ _ rfl).alloc _).below hb (by simp <;> omega);have x1 : Blk w1 (w.heap.size + 1) 88 #[.bool b, .slice A' n' c', .slice D' m' e'] := (blkAt _ _ _ (by simp)).below hb (by simp);have c02 : w1.cell? ⟨w.heap.size, 2, none⟩ = some (.slice D m e) := x0.cell 2;have c12 : w1.cell? ⟨w.heap.size + 1, 2, none⟩ = some (.slice D' m' e') := x1.cell 2;clear hb;go_wp2_with fail;go_ret;exact ⟨rfl, q1⟩
theorem b_rat_ne3 (w : World) (b : Bool) (A : Option Addr) (n c : Nat) (D : Option Addr) (m e : Nat) (r : RD) (k : Nat) (h : QD w b A n c D m e r k) (b' : Bool) (A' : Option Addr) (n' c' : Nat) (D' : Option Addr) (m' e' : Nat) (r' : RD) (k' : Nat) (h' : QD w b' A' n' c' D' m' e' r' k') (hbb : b = b') (hnn : r.num = r'.num) (hne : r.den ≠ r'.den) (hk : k ≤ 1000000) (hk' : k' ≤ 1000000) :
 Calls Tryz.prog 81 #[.agg #[.bool b, .slice A n c, .slice D m e], .agg #[.bool b', .slice A' n' c', .slice D' m' e']] w (RetV w (.bool false)) := by
 obtain ⟨e1, ha, hd, hk1, hk2⟩ := h;obtain ⟨e1', ha', hd', hk1', hk2'⟩ := h';rw [← hnn] at ha';subst hbb;have HE : (b == b) = true := by simp
 have HA := Lib.hid (And.intro ha ha');have HD := Lib.hid (And.intro hd hd');have HN := Lib.hid hne;clear ha ha' hd hd' hne e1 e1';go_enter Tryz.func81, Tryz.ntmps81;go_wp2_with fail;(with_reducible refine (b_words _ A n c r.num ?_ A' n' c' ?_ ?_).mono ?_); (exact HA.out.1.keep (((Kp.refl _).alloc _).alloc _)); (exact HA.out.2.keep (((Kp.refl _).alloc _).alloc _)); (omega); rintro e w1 ⟨rfl, hb⟩;have q1 : Below w.heap.size w w1 := (((Below.refl _ _).alloc (Nat.le_refl _) _).alloc (by simp) _).trans (hb.mono (by simp <;> omega));have x0 : Blk w1 w.heap.size 88 #[.bool b, .slice A n c, .slice D m e] := ((blkAt w _ _ rfl).alloc _).below hb (by simp <;> omega);have x1 : Blk w1 (w.heap.size + 1) 88 #[.bool b, .slice A' n' c', .slice D' m' e'] := (blkAt _ _ _ (by simp)).below hb (by simp);have c02 : w1.cell? ⟨w.heap.size, 2, none⟩ = some (.slice D m e) := x0.cell 2;have c12 : w1.cell? ⟨w.heap.size + 1, 2, none⟩ = some (.slice D' m' e') := x1.cell 2;clear hb;go_wp2_with fail;(with_reducible refine (b_words_ne _ D m e r.den ?_ D' m' e' r'.den ?_ ?_ ?_ ?_).mono ?_); (exact HD.out.1.belw q1); (exact HD.out.2.belw q1); (exact HN.out); (omega); (omega); rintro e w2 ⟨rfl, hb2⟩;go_wp2_with fail;go_ret;exact ⟨rfl, q1.trans (hb2.mono q1.size)⟩
theorem b_rat_eq (w : World) (b : Bool) (A : Option Addr) (n c : Nat) (D : Option Addr) (m e : Nat) (b' : Bool) (A' : Option Addr) (n' c' : Nat) (D' : Option Addr) (m' e' : Nat) (r : RD) (k k' : Nat) (h : QD w b A n c D m e r k) (h' : QD w b' A' n' c' D' m' e' r k') (hk : k ≤ 1000000) :
 Calls Tryz.prog 81 #[.agg #[.bool b, .slice A n c, .slice D m e], .agg #[.bool b', .slice A' n' c', .slice D' m' e']] w (RetV w (.bool true)) := by
 obtain ⟨e1, ha, hd, hk1, hk2⟩ := h;obtain ⟨e1', ha', hd', _, _⟩ := h';subst e1 e1';have HE : (r.neg == r.neg) = true := by simp
 have HA := Lib.hid (And.intro ha ha');have HD := Lib.hid (And.intro hd hd');clear ha ha' hd hd';go_enter Tryz.func81, Tryz.ntmps81;go_wp2_with fail;(with_reducible refine (b_words _ A n c r.num ?_ A' n' c' ?_ ?_).mono ?_); (exact HA.out.1.keep (((Kp.refl _).alloc _).alloc _)); (exact HA.out.2.keep (((Kp.refl _).alloc _).alloc _)); (omega); rintro e w1 ⟨rfl, hb⟩;have q1 : Below w.heap.size w w1 := (((Below.refl _ _).alloc (Nat.le_refl _) _).alloc (by simp) _).trans (hb.mono (by simp <;> omega));have x0 : Blk w1 w.heap.size 88 #[.bool r.neg, .slice A n c, .slice D m e] := ((blkAt w _ _ rfl).alloc _).below hb (by simp <;> omega);have x1 : Blk w1 (w.heap.size + 1) 88 #[.bool r.neg, .slice A' n' c', .slice D' m' e'] := (blkAt _ _ _ (by simp)).below hb (by simp);have c02 : w1.cell? ⟨w.heap.size, 2, none⟩ = some (.slice D m e) := x0.cell 2;have c12 : w1.cell? ⟨w.heap.size + 1, 2, none⟩ = some (.slice D' m' e') := x1.cell 2;clear hb;go_wp2_with fail;(with_reducible refine (b_words _ D m e r.den ?_ D' m' e' ?_ ?_).mono ?_); (exact HD.out.1.belw q1); (exact HD.out.2.belw q1); (omega); rintro e w2 ⟨rfl, hb2⟩;go_wp2_with fail;go_ret;exact ⟨rfl, q1.trans (hb2.mono q1.size)⟩
theorem b_rat_d (w : World) (b : Bool) (A : Option Addr) (n c : Nat) (D : Option Addr) (m e : Nat) (b' : Bool) (A' : Option Addr) (n' c' : Nat) (D' : Option Addr) (m' e' : Nat) (r r' : RD) (k k' : Nat) (h : QD w b A n c D m e r k) (h' : QD w b' A' n' c' D' m' e' r' k') (hk : k ≤ 1000000) (hk' : k' ≤ 1000000) (v : Bool) (hv : v = true ↔ r = r') :
 Calls Tryz.prog 81 #[.agg #[.bool b, .slice A n c, .slice D m e], .agg #[.bool b', .slice A' n' c', .slice D' m' e']] w (RetV w (.bool v)) := by
 by_cases e1 : r = r'
 ·subst e1
  rw [hv.2 rfl];exact b_rat_eq w b A n c D m e b' A' n' c' D' m' e' r k k' h h' hk
 have hvf : v = false := by cases v; rfl; exact absurd (hv.1 rfl) e1
 subst hvf;by_cases eb : b = b'
 ·by_cases en : r.num = r'.num
  ·refine b_rat_ne3 w b A n c D m e r k h b' A' n' c' D' m' e' r' k' h' eb en (fun ed => e1 ?_) hk hk'
   have hn : r.neg = r'.neg := by rw [h.1, h'.1, eb]
   obtain ⟨a1, a2, a3⟩ := r;obtain ⟨b1, b2, b3⟩ := r';simp only at hn en ed;rw [hn, en, ed]
  exact b_rat_ne2 w b A n c D m e r k h b' A' n' c' D' m' e' r' k' h' eb en hk hk'
 exact b_rat_ne1 w b A n c D m e r k h b' A' n' c' D' m' e' r' k' h' eb hk hk'
def Cells7 (w : World) (g o : Nat) (s : Value) (b1 : Bool) (A1 : Option Addr) (n1 c1 : Nat) (D1 : Option Addr) (m1 e1 : Nat) (b2 : Bool) (A2 : Option Addr) (n2 c2 : Nat) (D2 : Option Addr) (m2 e2 : Nat) : Prop :=
  w.cell? ⟨g, o, none⟩ = some s ∧ w.cell? ⟨g, o + 1, none⟩ = some (.bool b1) ∧ w.cell? ⟨g, o + 2, none⟩ = some (.slice A1 n1 c1) ∧ w.cell? ⟨g, o + 3, none⟩ = some (.slice D1 m1 e1) ∧ w.cell? ⟨g, o + 4, none⟩ = some (.bool b2) ∧ w.cell? ⟨g, o + 5, none⟩ = some (.slice A2 n2 c2) ∧ w.cell? ⟨g, o + 6, none⟩ = some (.slice D2 m2 e2)
section
variable {w w' : World} {g o : Nat} {s : Value} {b1 b2 : Bool} {A1 D1 A2 D2 : Option Addr} {n1 c1 m1 e1 n2 c2 m2 e2 : Nat}
theorem cells7 (h0 : w.cell? ⟨g, o, none⟩ = some s) (h1 : w.cell? ⟨g, o + 1, none⟩ = some (.bool b1)) (h2 : w.cell? ⟨g, o + 1 + 1, none⟩ = some (.slice A1 n1 c1)) (h3 : w.cell? ⟨g, o + 1 + 2, none⟩ = some (.slice D1 m1 e1)) (h4 : w.cell? ⟨g, o + 4, none⟩ = some (.bool b2)) (h5 : w.cell? ⟨g, o + 4 + 1, none⟩ = some (.slice A2 n2 c2)) (h6 : w.cell? ⟨g, o + 4 + 2, none⟩ = some (.slice D2 m2 e2)) : Cells7 w g o s b1 A1 n1 c1 D1 m1 e1 b2 A2 n2 c2 D2 m2 e2 := ⟨h0, h1, h2, h3, h4, h5, h6⟩
theorem cells7_belw (h : Cells7 w g o s b1 A1 n1 c1 D1 m1 e1 b2 A2 n2 c2 D2 m2 e2) (hb : Below w.heap.size w w') :
 w'.cell? ⟨g, o, none⟩ = some s ∧ w'.cell? ⟨g, o + 1, none⟩ = some (.bool b1) ∧ w'.cell? ⟨g, o + 2, none⟩ = some (.slice A1 n1 c1) ∧ w'.cell? ⟨g, o + 3, none⟩ = some (.slice D1 m1 e1) ∧ w'.cell? ⟨g, o + 4, none⟩ = some (.bool b2) ∧ w'.cell? ⟨g, o + 5, none⟩ = some (.slice A2 n2 c2) ∧ w'.cell? ⟨g, o + 6, none⟩ = some (.slice D2 m2 e2) :=
 ⟨cell_belw h.1 hb, cell_belw h.2.1 hb, cell_belw h.2.2.1 hb, cell_belw h.2.2.2.1 hb, cell_belw h.2.2.2.2.1 hb, cell_belw h.2.2.2.2.2.1 hb, cell_belw h.2.2.2.2.2.2 hb⟩
end
theorem bool_of (p : Prop) : ∃ v : Bool, v = true ↔ p := by
 by_cases h : p
 ·exact ⟨true, by simp [h]⟩
 exact ⟨false, by simp [h]⟩
theorem gt_jt : Tryz.prog.eqGuardType Tryz.prog.depth 116 = false := by kernel_rfl
theorem gh_jt : Tryz.prog.stoodInHeld 116 = false := by kernel_rfl
theorem gt_dr : Tryz.prog.eqGuardType Tryz.prog.depth 118 = false := by kernel_rfl
theorem gh_dr : Tryz.prog.stoodInHeld 118 = false := by kernel_rfl
theorem take_next {α : Type} {l m : List α} {i : Nat} {a : α} (h : l.take i = m.take i) (h1 : l[i]? = some a) (h2 : m[i]? = some a) : l.take (i + 1) = m.take (i + 1) := by rw [List.take_add_one, List.take_add_one, h, h1, h2]
theorem b_body_d (w : World) (A : Option Addr) (n c : Nat) (a : BodyL) (h : SlS (MkAt 1000000) 7 w A n c a.pts) (A' : Option Addr) (n' c' : Nat) (b : BodyL) (h' : SlS (MkAt 1000000) 7 w A' n' c' b.pts) (hn : n ≤ 1000) (v : Bool) (hv : v = true ↔ a = b) :
 Calls Tryz.prog 28 #[.agg #[strV a.name, .slice A n c], .agg #[strV b.name, .slice A' n' c']] w (RetV w (.bool v)) := by
 have H := Lib.hid (And.intro h h');have HV := Lib.hid hv;clear h h' hv;by_cases en : a.name = b.name
 ·by_cases el : n = n'
  ·subst el
   have hs : (a.name == b.name) = true := beq_iff_eq.2 en;have HN := Lib.hid en;have hnc := H.out.1.2.1;have hnc' := H.out.2.2.1;have HLA := Lib.hid H.out.1.1;have HLB := Lib.hid H.out.2.1;clear en;go_enter Tryz.func28, Tryz.ntmps28;go_wp2_with fail;go_loopw [5] (fun iv wr => ∃ i : Nat, iv = .int .i64 (i : Nat) ∧ i ≤ n ∧ Hid (a.pts.take i = b.pts.take i) ∧ Blk wr w.heap.size 45 #[strV a.name, .slice A n c] ∧ Blk wr (w.heap.size + 1) 45 #[strV b.name, .slice A' n c'] ∧ Below w.heap.size w wr) (fun iv _ => n - (intOf iv).toNat)
   case atStart => exact ⟨0, rfl, Nat.zero_le _, Lib.hid rfl, (blkAt w _ _ rfl).alloc _, blkAt _ _ _ (by simp), ((brefl w).alloc (Nat.le_refl _) _).alloc (by simp) _⟩
   case round =>
    obtain ⟨i, rfl, hi, HI, xa, xb, bwa⟩ := hrel;rename World => wa;have hla : w.heap.size < wa.heap.size := xa.lt;have hlb : w.heap.size + 1 < wa.heap.size := xb.lt;rcases Nat.lt_or_ge i n with hlt | hge
    ·have hi1 : ((i : Int) < (n : Int)) = True := by simp; omega
     obtain ⟨g, o, x, e1, hg, _, hxi, hX⟩ := H.out.1.at_ hlt;subst e1;obtain ⟨g9, o9, y, e1, hg9, _, hyi, hY⟩ := H.out.2.at_ hlt;subst e1;have ca1 := xa.cell 1;obtain ⟨d0, ⟨b1, A1, n1, c1, D1, m1, e1, d1, d2, d3, hQ1⟩, ⟨b2, A2, n2, c2, D2, m2, e2, d4, d5, d6, hQ2⟩, _⟩ := hX;obtain ⟨f0, ⟨b3, A3, n3, c3, D3, m3, e3, f1, f2, f3, hQ3⟩, ⟨b4, A4, n4, c4, D4, m4, e4, f4, f5, f6, hQ4⟩, _⟩ := hY;have HM1 := Lib.hid (cells7 d0 d1 d2 d3 d4 d5 d6);have HM2 := Lib.hid (cells7 f0 f1 f2 f3 f4 f5 f6);have HQ := Lib.hid (And.intro hQ1 (And.intro hQ2 (And.intro hQ3 hQ4)));have HXI := Lib.hid (And.intro hxi hyi);clear d0 d1 d2 d3 d4 d5 d6 f0 f1 f2 f3 f4 f5 f6 hQ1 hQ2 hQ3 hQ4 hxi hyi;go_wp2_with fail;clear ca1;have hi2 : ((i : Int) < (n : Int)) := by omega
     refine wp_region_own (B := w.heap.size) (fr := fun xf => ⟨List.toArray (.agg #[strV a.name, .slice (some ⟨g, o, none⟩) n c] :: .agg #[strV b.name, .slice (some ⟨g9, o9, none⟩) n c'] :: .pointer (some ⟨w.heap.size, 0, none⟩) :: .pointer (some ⟨w.heap.size + 1, 0, none⟩) :: u4 :: .int .i64 (i : Nat) :: xf 10 :: xf 11 :: .pointer (some ⟨w.heap.size, 0, none⟩) :: strV a.name :: .pointer (some ⟨w.heap.size + 1, 0, none⟩) :: strV b.name :: .bool false :: .bool false :: .pointer (some ⟨w.heap.size, 1, none⟩) :: .slice (some ⟨g, o, none⟩) n c :: .int .i64 (n : Nat) :: .pointer (some ⟨w.heap.size + 1, 1, none⟩) :: .slice (some ⟨g9, o9, none⟩) n c' :: .int .i64 (n : Nat) :: .bool false :: .bool false :: .int .i64 (i : Nat) :: .pointer (some ⟨w.heap.size, 1, none⟩) :: .slice (some ⟨g, o, none⟩) n c :: .int .i64 (n : Nat) :: .bool true :: u27 :: u28 :: xf 0 :: xf 1 :: xf 2 :: xf 3 :: xf 4 :: xf 5 :: xf 6 :: xf 7 :: xf 8 :: xf 9 :: u39 :: u40 :: u41 :: u42 :: u43 :: u44 :: u45 :: u46 :: u47 :: u48 :: u49 :: u50 :: u51 :: u52 :: u53 :: u54 :: u55 :: u56 :: u57 :: u58 :: u59 :: []), []⟩) (R := fun ri => List.getD ((PEq (.pointer (some ⟨w.heap.size, 1, none⟩))) :: (PEq (.slice (some ⟨g, o, none⟩) n c)) :: (PEq (.int .i64 (i : Nat))) :: (PEq (.pointer (some ⟨g, o + i * 7, none⟩))) :: (PEq (.agg #[strV x.name, .bool b1, .slice A1 n1 c1, .slice D1 m1 e1, .bool b2, .slice A2 n2 c2, .slice D2 m2 e2])) :: (PEq (.pointer (some ⟨w.heap.size + 1, 1, none⟩))) :: (PEq (.slice (some ⟨g9, o9, none⟩) n c')) :: (PEq (.int .i64 (i : Nat))) :: (PEq (.pointer (some ⟨g9, o9 + i * 7, none⟩))) :: (PEq (.agg #[strV y.name, .bool b3, .slice A3 n3 c3, .slice D3 m3 e3, .bool b4, .slice A4 n4 c4, .slice D4 m4 e4])) :: PAny :: PAny :: PAny :: PAny :: []) ri (fun _ _ => True)) (es := [⟨10, 12, 90, #[.string ⟨#[]⟩, .bool false, .slice none 0 0, .slice none 0 0, .bool false, .slice none 0 0, .slice none 0 0], fun cz _ => cz = #[strV x.name, .bool b1, .slice A1 n1 c1, .slice D1 m1 e1, .bool b2, .slice A2 n2 c2, .slice D2 m2 e2]⟩, ⟨11, 13, 90, #[.string ⟨#[]⟩, .bool false, .slice none 0 0, .slice none 0 0, .bool false, .slice none 0 0, .slice none 0 0], fun cz _ => cz = #[strV y.name, .bool b3, .slice A3 n3 c3, .slice D3 m3 e3, .bool b4, .slice A4 n4 c4, .slice D4 m4 e4]⟩]) (ow := [⟨w.heap.size, 14, 0, 45, #[strV a.name, .slice (some ⟨g, o, none⟩) n c], fun _ _ => True⟩, ⟨w.heap.size + 1, 14, 0, 45, #[strV b.name, .slice (some ⟨g9, o9, none⟩) n c'], fun _ _ => True⟩]) (x0 := (upd (upd (upd (upd (upd (upd (upd (upd (upd (upd (upd (upd (fun _ => undef) 0 u29) 1 u30) 2 u31) 3 u32) 4 u33) 5 u34) 6 u35) 7 u36) 8 u37) 9 u38) 10 u6) 11 u7)) (by kernel_rfl)
      (each_of ⟨fun _ _ => rfl, fun _ _ => rfl, fun _ _ => rfl, fun _ _ => rfl, fun _ _ => rfl, fun _ _ => rfl, fun _ _ => rfl, fun _ _ => rfl, fun _ _ => rfl, fun _ _ => rfl, fun _ _ => rfl, fun _ _ => rfl, fun _ _ => rfl, fun _ _ => rfl, trivial⟩) (each_of (acyc_from _ 0 (by kernel_rfl))) (AllBw.get _ ⟨bEq _, bEq _, bEq _, bEq _, bEq _, bEq _, bEq _, bEq _, bEq _, bEq _, bAny, bAny, bAny, bAny, trivial⟩)
      (fmc ⟨fun _ _ _ h _ => h, fmc ⟨fun _ _ _ h _ => h, fun _ h => nomatch h⟩⟩) (fmc ⟨fun _ _ _ _ _ => True.intro, fmc ⟨fun _ _ _ _ _ => True.intro, fun _ h => nomatch h⟩⟩) (fmc ⟨⟨by simp, by simp⟩, fmc ⟨⟨by simp, by simp⟩, fun _ h => nomatch h⟩⟩) bwa.size
      (fmc ⟨⟨xa, Nat.le_refl _⟩, fmc ⟨⟨xb, by show w.heap.size ≤ w.heap.size + 1; omega⟩, fun _ h => nomatch h⟩⟩) (ownDistB (by simp <;> omega))
      (each_of ⟨?_, ?_, ?_, ?_, ?_, ?_, ?_, ?_, ?_, ?_, ?_, ?_, ?_, ?_, trivial⟩) ?_
     ·exact .inl ⟨by simp, by simp, fun xf wq hk hbl hd K hK => by
       (try dsimp only);go_simp;have hz := hK.out (.pointer (some ⟨w.heap.size, 1, none⟩)) _ rfl (brefl _)
       exact hz⟩
     ·exact .inl ⟨by simp, by simp, fun xf wq hk hbl hd K hK => by
       have dq0 : xf 0 = .pointer (some ⟨w.heap.size, 1, none⟩) := hd ⟨0, .data⟩ (by simp) rfl;have y : Blk wq w.heap.size 45 #[strV a.name, .slice (some ⟨g, o, none⟩) n c] := hbl _ (List.Mem.head _) (by simp [Region.binds]);have hc1 : wq.cell? ⟨w.heap.size, 1, none⟩ = some (.slice (some ⟨g, o, none⟩) n c) := y.cell 1;(try dsimp only); (try simp only [dq0]);go_simp;have hz := hK.out (.slice (some ⟨g, o, none⟩) n c) _ rfl (brefl _);simp only [dq0] at hz
       exact hz⟩
     ·exact .inl ⟨by simp, by simp, fun xf wq hk hbl hd K hK => by
       (try dsimp only);go_simp;have hz := hK.out (.int .i64 (i : Nat)) _ rfl (brefl _)
       exact hz⟩
     ·exact .inl ⟨by simp, by simp, fun xf wq hk hbl hd K hK => by
       have dq1 : xf 1 = .slice (some ⟨g, o, none⟩) n c := hd ⟨1, .data⟩ (by simp) rfl;have dq2 : xf 2 = .int .i64 (i : Nat) := hd ⟨2, .data⟩ (by simp) rfl;(try dsimp only); (try simp only [dq1, dq2]);go_simp;have hz := hK.out (.pointer (some ⟨g, o + i * 7, none⟩)) _ rfl (brefl _);simp only [dq1, dq2] at hz
       exact hz⟩
     ·exact .inl ⟨by simp, by simp, fun xf wq hk hbl hd K hK => by
       have dq3 : xf 3 = .pointer (some ⟨g, o + i * 7, none⟩) := hd ⟨3, .data⟩ (by simp) rfl;obtain ⟨k0, k1, k2, k3, k4, k5, k6⟩ := cells7_belw HM1.out (bwa.trans hk);(try dsimp only); (try simp only [dq3]);go_simp;have hz := hK.out (.agg #[strV x.name, .bool b1, .slice A1 n1 c1, .slice D1 m1 e1, .bool b2, .slice A2 n2 c2, .slice D2 m2 e2]) _ rfl (brefl _);simp only [dq3] at hz
       exact hz⟩
     ·exact .inl ⟨by simp, by simp, fun xf wq hk hbl hd K hK => by
       (try dsimp only);go_simp;have hz := hK.out (.pointer (some ⟨w.heap.size + 1, 1, none⟩)) _ rfl (brefl _)
       exact hz⟩
     ·exact .inl ⟨by simp, by simp, fun xf wq hk hbl hd K hK => by
       have dq5 : xf 5 = .pointer (some ⟨w.heap.size + 1, 1, none⟩) := hd ⟨5, .data⟩ (by simp) rfl;have y : Blk wq (w.heap.size + 1) 45 #[strV b.name, .slice (some ⟨g9, o9, none⟩) n c'] := hbl _ (List.Mem.tail _ (List.Mem.head _)) (by simp [Region.binds]);have hc1 : wq.cell? ⟨w.heap.size + 1, 1, none⟩ = some (.slice (some ⟨g9, o9, none⟩) n c') := y.cell 1;(try dsimp only); (try simp only [dq5]);go_simp;have hz := hK.out (.slice (some ⟨g9, o9, none⟩) n c') _ rfl (brefl _);simp only [dq5] at hz
       exact hz⟩
     ·exact .inl ⟨by simp, by simp, fun xf wq hk hbl hd K hK => by
       (try dsimp only);go_simp;have hz := hK.out (.int .i64 (i : Nat)) _ rfl (brefl _)
       exact hz⟩
     ·exact .inl ⟨by simp, by simp, fun xf wq hk hbl hd K hK => by
       have dq6 : xf 6 = .slice (some ⟨g9, o9, none⟩) n c' := hd ⟨6, .data⟩ (by simp) rfl;have dq7 : xf 7 = .int .i64 (i : Nat) := hd ⟨7, .data⟩ (by simp) rfl;(try dsimp only); (try simp only [dq6, dq7]);go_simp;have hz := hK.out (.pointer (some ⟨g9, o9 + i * 7, none⟩)) _ rfl (brefl _);simp only [dq6, dq7] at hz
       exact hz⟩
     ·exact .inl ⟨by simp, by simp, fun xf wq hk hbl hd K hK => by
       have dq8 : xf 8 = .pointer (some ⟨g9, o9 + i * 7, none⟩) := hd ⟨8, .data⟩ (by simp) rfl;obtain ⟨k0, k1, k2, k3, k4, k5, k6⟩ := cells7_belw HM2.out (bwa.trans hk);(try dsimp only); (try simp only [dq8]);go_simp;have hz := hK.out (.agg #[strV y.name, .bool b3, .slice A3 n3 c3, .slice D3 m3 e3, .bool b4, .slice A4 n4 c4, .slice D4 m4 e4]) _ rfl (brefl _);simp only [dq8] at hz
       exact hz⟩
     ·exact .inr (.inl ⟨⟨10, 12, 90, #[.string ⟨#[]⟩, .bool false, .slice none 0 0, .slice none 0 0, .bool false, .slice none 0 0, .slice none 0 0], fun cz _ => cz = #[strV x.name, .bool b1, .slice A1 n1 c1, .slice D1 m1 e1, .bool b2, .slice A2 n2 c2, .slice D2 m2 e2]⟩, by simp, rfl, by simp, by simp, by simp, fun _ _ => True.intro, fun xf wq K hK => by
       (try dsimp only);go_simp
       exact hK.out⟩)
     ·exact .inr (.inl ⟨⟨11, 13, 90, #[.string ⟨#[]⟩, .bool false, .slice none 0 0, .slice none 0 0, .bool false, .slice none 0 0, .slice none 0 0], fun cz _ => cz = #[strV y.name, .bool b3, .slice A3 n3 c3, .slice D3 m3 e3, .bool b4, .slice A4 n4 c4, .slice D4 m4 e4]⟩, by simp, rfl, by simp, by simp, by simp, fun _ _ => True.intro, fun xf wq K hK => by
       (try dsimp only);go_simp
       exact hK.out⟩)
     ·exact .inr (.inr (.inl ⟨⟨10, 12, 90, #[.string ⟨#[]⟩, .bool false, .slice none 0 0, .slice none 0 0, .bool false, .slice none 0 0, .slice none 0 0], fun cz _ => cz = #[strV x.name, .bool b1, .slice A1 n1 c1, .slice D1 m1 e1, .bool b2, .slice A2 n2 c2, .slice D2 m2 e2]⟩, by simp, rfl, by simp, by simp, by simp, by simp, True.intro, fun _ _ => True.intro, ⟨⟨10, .data⟩, by simp, rfl, rfl⟩, fun xf wq g7 hx hblk hd => by
       have dq4 : xf 4 = .agg #[strV x.name, .bool b1, .slice A1 n1 c1, .slice D1 m1 e1, .bool b2, .slice A2 n2 c2, .slice D2 m2 e2] := hd ⟨4, .data⟩ (by simp) rfl;dsimp only at hx hblk;refine ⟨[strV x.name, .bool b1, .slice A1 n1 c1, .slice D1 m1 e1, .bool b2, .slice A2 n2 c2, .slice D2 m2 e2], fun w' hk => rfl, fun K hK => ?_⟩;have hc0 : wq.cell? ⟨g7, 0, none⟩ = some (.string ⟨#[]⟩) := hblk.cell 0;have hc1 : wq.cell? ⟨g7, 1, none⟩ = some (.bool false) := hblk.cell 1;have hc2 : wq.cell? ⟨g7, 2, none⟩ = some (.slice none 0 0) := hblk.cell 2;have hc3 : wq.cell? ⟨g7, 3, none⟩ = some (.slice none 0 0) := hblk.cell 3;have hc4 : wq.cell? ⟨g7, 4, none⟩ = some (.bool false) := hblk.cell 4;have hc5 : wq.cell? ⟨g7, 5, none⟩ = some (.slice none 0 0) := hblk.cell 5;have hc6 : wq.cell? ⟨g7, 6, none⟩ = some (.slice none 0 0) := hblk.cell 6;have hf0 : wq.frozen? ⟨g7, 0, none⟩ = false := hblk.frozen 0;have hf1 : wq.frozen? ⟨g7, 1, none⟩ = false := hblk.frozen 1;have hf2 : wq.frozen? ⟨g7, 2, none⟩ = false := hblk.frozen 2;have hf3 : wq.frozen? ⟨g7, 3, none⟩ = false := hblk.frozen 3;have hf4 : wq.frozen? ⟨g7, 4, none⟩ = false := hblk.frozen 4;have hf5 : wq.frozen? ⟨g7, 5, none⟩ = false := hblk.frozen 5;have hf6 : wq.frozen? ⟨g7, 6, none⟩ = false := hblk.frozen 6;(try dsimp only);simp only [hx, dq4];go_simp;have hz := hK.out undef;simp only [hx, dq4] at hz
       exact hz⟩))
     ·exact .inr (.inr (.inl ⟨⟨11, 13, 90, #[.string ⟨#[]⟩, .bool false, .slice none 0 0, .slice none 0 0, .bool false, .slice none 0 0, .slice none 0 0], fun cz _ => cz = #[strV y.name, .bool b3, .slice A3 n3 c3, .slice D3 m3 e3, .bool b4, .slice A4 n4 c4, .slice D4 m4 e4]⟩, by simp, rfl, by simp, by simp, by simp, by simp, True.intro, fun _ _ => True.intro, ⟨⟨11, .data⟩, by simp, rfl, rfl⟩, fun xf wq g7 hx hblk hd => by
       have dq9 : xf 9 = .agg #[strV y.name, .bool b3, .slice A3 n3 c3, .slice D3 m3 e3, .bool b4, .slice A4 n4 c4, .slice D4 m4 e4] := hd ⟨9, .data⟩ (by simp) rfl;dsimp only at hx hblk;refine ⟨[strV y.name, .bool b3, .slice A3 n3 c3, .slice D3 m3 e3, .bool b4, .slice A4 n4 c4, .slice D4 m4 e4], fun w' hk => rfl, fun K hK => ?_⟩;have hc0 : wq.cell? ⟨g7, 0, none⟩ = some (.string ⟨#[]⟩) := hblk.cell 0;have hc1 : wq.cell? ⟨g7, 1, none⟩ = some (.bool false) := hblk.cell 1;have hc2 : wq.cell? ⟨g7, 2, none⟩ = some (.slice none 0 0) := hblk.cell 2;have hc3 : wq.cell? ⟨g7, 3, none⟩ = some (.slice none 0 0) := hblk.cell 3;have hc4 : wq.cell? ⟨g7, 4, none⟩ = some (.bool false) := hblk.cell 4;have hc5 : wq.cell? ⟨g7, 5, none⟩ = some (.slice none 0 0) := hblk.cell 5;have hc6 : wq.cell? ⟨g7, 6, none⟩ = some (.slice none 0 0) := hblk.cell 6;have hf0 : wq.frozen? ⟨g7, 0, none⟩ = false := hblk.frozen 0;have hf1 : wq.frozen? ⟨g7, 1, none⟩ = false := hblk.frozen 1;have hf2 : wq.frozen? ⟨g7, 2, none⟩ = false := hblk.frozen 2;have hf3 : wq.frozen? ⟨g7, 3, none⟩ = false := hblk.frozen 3;have hf4 : wq.frozen? ⟨g7, 4, none⟩ = false := hblk.frozen 4;have hf5 : wq.frozen? ⟨g7, 5, none⟩ = false := hblk.frozen 5;have hf6 : wq.frozen? ⟨g7, 6, none⟩ = false := hblk.frozen 6;(try dsimp only);simp only [hx, dq9];go_simp;have hz := hK.out undef;simp only [hx, dq9] at hz
       exact hz⟩))
     intro y7 w7 kq hbl lw how _ hfl hds;obtain ⟨_, za, ez, _⟩ := how _ (List.Mem.head _);obtain rfl := ez (by simp);obtain ⟨_, zb, ez, _⟩ := how _ (List.Mem.tail _ (List.Mem.head _));obtain rfl := ez (by simp);obtain ⟨g6, _, eg6, Gg6, xg6, rfl⟩ := hfl _ (List.Mem.head _);obtain ⟨g7, _, eg7, Gg7, xg7, rfl⟩ := hfl _ (List.Mem.tail _ (List.Mem.head _));dsimp only at za zb eg6 Gg6 xg6 eg7 Gg7 xg7;clear how hfl hds ez;have bw7 := bwa.trans kq;have lg6 : g6 < w7.heap.size := xg6.lt;have lg7 : g7 < w7.heap.size := xg7.lt;(try dsimp only);simp only [eg6, eg7];clear eg6 eg7;obtain ⟨k0, k1, k2, k3, k4, k5, k6⟩ := xg6.c7;obtain ⟨l0, l1, l2, l3, l4, l5, l6⟩ := xg7.c7;by_cases hnm : x.name = y.name
     ·have hnb : (x.name == y.name) = true := beq_iff_eq.2 hnm
      have HNM := Lib.hid hnm;clear hnm;obtain ⟨v1, hv1⟩ := bool_of (x.x = y.x);obtain ⟨v2, hv2⟩ := bool_of (x.y = y.y);have HV1 := Lib.hid hv1;have HV2 := Lib.hid hv2;clear hv1 hv2;go_wp2_with fail;(with_reducible refine (b_rat_d w7 b1 A1 n1 c1 D1 m1 e1 b3 A3 n3 c3 D3 m3 e3 x.x y.x 1000000 1000000 (HQ.out.1.belw bw7) (HQ.out.2.2.1.belw bw7) (by decide) (by decide) v1 HV1.out).mono ?_); rintro e' w8 ⟨rfl, hb8⟩;have bw8 := bw7.trans (hb8.mono bw7.size);have za8 := za.below hb8 za.lt;have zb8 := zb.below hb8 zb.lt;have y6 := xg6.below hb8 xg6.lt;have y7' := xg7.below hb8 xg7.lt;clear k0 k1 k2 k3 k4 k5 k6 l0 l1 l2 l3 l4 l5 l6;cases v1
      ·have hvf : v = false := by
        cases v
        ·rfl
        exfalso;have := HV.out.1 rfl;subst this;have h9 := HXI.out.1.symm.trans HXI.out.2;injection h9 with h9;subst h9;exact absurd (HV1.out.2 rfl) (by decide)
       subst hvf;go_wp2_with fail;go_ret;exact ⟨rfl, bw8⟩
      have lg6 : g6 < w8.heap.size := y6.lt;have lg7 : g7 < w8.heap.size := y7'.lt;obtain ⟨k0, k1, k2, k3, k4, k5, k6⟩ := y6.c7;obtain ⟨l0, l1, l2, l3, l4, l5, l6⟩ := y7'.c7;go_wp2_with fail;(with_reducible refine (b_rat_d w8 b2 A2 n2 c2 D2 m2 e2 b4 A4 n4 c4 D4 m4 e4 x.y y.y 1000000 1000000 (HQ.out.2.1.belw bw8) (HQ.out.2.2.2.belw bw8) (by decide) (by decide) v2 HV2.out).mono ?_); rintro e' w9 ⟨rfl, hb9⟩;have bw9 := bw8.trans (hb9.mono bw8.size);have za9 := za8.below hb9 za8.lt;have zb9 := zb8.below hb9 zb8.lt;clear k0 k1 k2 k3 k4 k5 k6 l0 l1 l2 l3 l4 l5 l6;cases v2
      ·have hvf : v = false := by
        cases v
        ·rfl
        exfalso;have := HV.out.1 rfl;subst this;have h9 := HXI.out.1.symm.trans HXI.out.2;injection h9 with h9;subst h9;exact absurd (HV2.out.2 rfl) (by decide)
       subst hvf;go_wp2_with fail;go_ret;exact ⟨rfl, bw9⟩
      ·have hxy : x = y := by
        have e1 := HNM.out;have e2 := HV1.out.1 (by simp);have e3 := HV2.out.1 (by simp);obtain ⟨x1, x2, x3⟩ := x;obtain ⟨y1, y2, y3⟩ := y;simp only at e1 e2 e3;rw [e1, e2, e3]
       have HI2 : Hid (a.pts.take (i + 1) = b.pts.take (i + 1)) := Lib.hid (take_next HI.out HXI.out.1 (by rw [hxy]; exact HXI.out.2));clear hxy;go_wp2_with fail;go_roundw
       case rel => exact ⟨i + 1, by go_num, by omega, HI2, za9, zb9, bw9⟩
       case measure => simp [intOf]; omega
     have hnb : (x.name == y.name) = false := beq_eq_false_iff_ne.2 hnm
     have hvf : v = false := by
      cases v
      ·rfl
      exfalso;have := HV.out.1 rfl;subst this;have h9 := HXI.out.1.symm.trans HXI.out.2;injection h9 with h9;exact hnm (by rw [h9])
     subst hvf;clear hnm;go_wp2_with fail;go_ret;exact ⟨rfl, bw7⟩
    have hi1 : ((i : Int) < (n : Int)) = False := by simp; omega
    have e2 : a.pts = b.pts := by
     have := HI.out;rwa [List.take_of_length_le (by rw [HLA.out]; exact hge), List.take_of_length_le (by rw [HLB.out]; exact hge)] at this
    have hvt : v = true := HV.out.2 (by
     have e1 := HN.out;obtain ⟨a1, a2⟩ := a;obtain ⟨b1, b2⟩ := b;simp only at e1 e2
     rw [e1, e2])
    subst hvt;have ca1 := xa.cell 1;clear e2;go_wp2_with fail;go_ret;exact ⟨rfl, bwa⟩
  have el2 : ((n : Int) == (n' : Int)) = false := by simp; omega
  have el3 : ¬ (n : Int) = (n' : Int) := by omega
  have hvf : v = false := by
   cases v
   ·rfl
   exfalso;have := HV.out.1 rfl;subst this;exact el (H.out.1.1.symm.trans H.out.2.1)
  subst hvf;have hs : (a.name == b.name) = true := beq_iff_eq.2 en;clear en;go_enter Tryz.func28, Tryz.ntmps28;go_wp2_with fail;go_ret;exact ⟨rfl, ((brefl w).alloc (Nat.le_refl _) _).alloc (by simp) _⟩
 have hs : (a.name == b.name) = false := beq_eq_false_iff_ne.2 en
 have hvf : v = false := by
  cases v
  ·rfl
  exact absurd (by rw [HV.out.1 rfl]) en
 subst hvf;clear en;go_enter Tryz.func28, Tryz.ntmps28;go_wp2_with fail;go_ret;exact ⟨rfl, ((brefl w).alloc (Nat.le_refl _) _).alloc (by simp) _⟩
def exT20 : List UInt8 := [108, 105, 110, 107, 97, 103, 101, 32, 109, 59, 32, 98, 111, 100, 121, 32, 102, 114, 97, 109, 101, 32, 123, 32, 79, 32, 48, 32, 48, 59, 32, 67, 32, 52, 32, 48, 59, 32, 125, 32, 98, 111, 100, 121, 32, 99, 114, 97, 110, 107, 32, 123, 32, 79].append [32, 48, 32, 48, 59, 32, 65, 32, 49, 32, 49, 47, 50, 59, 32, 125, 32, 112, 105, 110, 32, 106, 32, 99, 114, 97, 110, 107, 46, 79, 32, 102, 114, 97, 109, 101, 46, 79, 59, 32, 100, 114, 105, 118, 101, 114, 32, 100, 32, 99, 114, 97, 110, 107, 59]
theorem ex20_shape : Bn.shape (tokens exT20) = some (lkToks exL) := by decide +kernel
theorem ex20_long : longL exL.bodies ≠ true := by decide +kernel
theorem rdw (q : Rat) : RdW (rd q) := rd_wds q
theorem exL_w : LkW exL := by
 intro b hb m hm;have h : b = bdF ∨ b = bdC := by simpa [exL] using hb
 have hm2 : m = mkO ∨ m = mkC ∨ m = mkA := by
  rcases h with rfl | rfl
  ·have : m = mkO ∨ m = mkC := by simpa [bdF] using hm
   rcases this with h | h
   ·exact .inl h
   exact .inr (.inl h)
  have : m = mkO ∨ m = mkA := by simpa [bdC] using hm
  rcases this with h | h
  ·exact .inl h
  exact .inr (.inr h)
 rcases hm2 with rfl | rfl | rfl <;> exact ⟨rdw _, rdw _⟩
theorem ex20 : ReadOut exT20 0 exL := by
 have h := ex20_shape
 cases ht : tokens exT20 with
 | err n => rw [ht] at h; cases h
 | ok l =>
  rw [ht] at h;injection h with h;obtain ⟨h1, h2⟩ := read_back (l := l) h (lkErr_full ex_err) exL_w ex20_long;exact .ok l (.ok (by decide) ht rfl) h1 (by rw [h2]; exact ex_err) rfl h2.symm
theorem l20_awake (w : World) (hmx : Mx w) : Calls Tryz.prog 22 #[] w (RetV w (.bool true)) := by
 have HM := Lib.hid hmx;clear hmx;go_enter Tryz.func22, Tryz.ntmps22;go_wp2_with fail
 have he : Calls Tryz.prog 66 #[] w (RetV w (strV exT20)) := by
  go_enter Tryz.func66, Tryz.ntmps66;go_wp2_with fail;go_ret;exact ⟨rfl, brefl w⟩
 (with_reducible refine he.mono ?_); rintro e w1 ⟨rfl, hb1⟩;clear he;go_wp2_with fail;(with_reducible refine (ps_linkage w1 exT20 0 exL (HM.out.belw hb1) ex20).mono ?_); rintro e w2 ⟨A, n, c, B, p, d, C, q, f, rfl, hL, hb2⟩;rw [errV_0];have hb := hb1.trans (hb2.mono hb1.size);obtain rfl : 2 = n := hL.bodies.1;obtain rfl : 1 = p := hL.joints.1;obtain rfl : 1 = q := hL.drivers.1;obtain ⟨g1, o1, j, e1, hg1, hc1, hj, hJ⟩ := hL.joints.at_ (i := 0) (by decide);obtain ⟨g2, o2, dr, e2, hg2, hc2, hd, hD⟩ := hL.drivers.at_ (i := 0) (by decide);subst e1 e2;injection hj with hj;injection hd with hd;subst hj hd;obtain ⟨d0, d1, d2, d3, d4, d5, d6, _⟩ := hJ;obtain ⟨f0, f1, _⟩ := hD;simp only [Nat.zero_mul, Nat.add_zero] at d0 d1 d2 d3 d4 d5 d6 f0 f1;have d0 : w2.cell? ⟨g1, o1, none⟩ = some (.string ⟨#[106]⟩) := d0;have f0 : w2.cell? ⟨g2, o2, none⟩ = some (.string ⟨#[100]⟩) := f0;have hne1 : ¬ g1 = w2.heap.size := by omega
 have hne2 : ¬ g2 = w2.heap.size := by omega
 have gt1 := gt_jt;have gt2 := gh_jt;have gt3 := gt_dr;have gt4 := gh_dr;clear hL hb1 hb2;go_wp2_with fail;go_ret;exact ⟨rfl, hb.alloc hb.size _⟩
theorem ReadOut.err {s : List UInt8} {x : Int} {L : LinkL} (h : ReadOut s x L) (hx : x ≠ 0) : L = L0 := by
 cases h with
 | split _ _ _ h => exact h
 | read _ _ _ _ h => exact h
 | check _ _ _ _ _ h => exact h
 | ok l hs hr hc h hL => exact absurd h hx
theorem LkS.mono {k k' : Nat} {w : World} {A B C : Option Addr} {n c p d q e : Nat} {L : LinkL} (h : LkS k w A n c B p d C q e L) (hk : k ≤ k') : LkS k' w A n c B p d C q e L := by
 have hr : ∀ g o r, RatAt w g o r k → RatAt w g o r k' := fun g o r ⟨b, A, n, c, D, m, e, h1, h2, h3, h4⟩ => ⟨b, A, n, c, D, m, e, h1, h2, h3, h4.1, h4.2.1, h4.2.2.1, Nat.le_trans h4.2.2.2.1 hk, Nat.le_trans h4.2.2.2.2 hk⟩
 refine ⟨h.name, h.bodies.mono_ fun g o b _ hp => ?_, h.joints, h.drivers⟩;obtain ⟨A', n', c', c0, c1, hM, hn⟩ := hp;exact ⟨A', n', c', c0, c1, hM.mono_ fun g o m _ hm => ⟨hm.1, hr _ _ _ hm.2.1, hr _ _ _ hm.2.2.1, hm.2.2.2⟩, hn⟩
theorem SlS.mkM {k : Nat} {w : World} {A : Option Addr} {n c : Nat} {l : List MarkL} (h : SlS (MkAt k) 7 w A n c l) (hk : k ≤ 1000000 := by decide) : SlS (MkAt 1000000) 7 w A n c l := by
 have hr : ∀ g o r, RatAt w g o r k → RatAt w g o r 1000000 := fun g o r ⟨b, A, n, c, D, m, e, h1, h2, h3, h4⟩ => ⟨b, A, n, c, D, m, e, h1, h2, h3, h4.1, h4.2.1, h4.2.2.1, Nat.le_trans h4.2.2.2.1 hk, Nat.le_trans h4.2.2.2.2 hk⟩
 exact h.mono_ fun g o m _ hm => ⟨hm.1, hr _ _ _ hm.2.1, hr _ _ _ hm.2.2.1, hm.2.2.2⟩
end Go.Proofs.YtmfdifjkjkaheaaGreatDoor
namespace Go.Proofs.YtmfdifjkjkaheaaGreatDoor
open Go Go.RowKit Bn Go.Lib
attribute [local go_sem ↓] Go.wp_at_zero Go.wp_at_succ
theorem digN_front {D r : List UInt8} (hD : D.all isDg = true) (hr : ∀ c t, r = c :: t → isDg c = false) : digN (D ++ r) = D.length := by
 induction D with
 | nil =>
  cases r with
  | nil => rfl
  | cons c t => unfold digN; rw [List.nil_append, List.takeWhile_cons, hr c t rfl]; rfl
 | cons x D ih =>
  rw [List.all_cons, Bool.and_eq_true] at hD;unfold digN at ih ⊢;rw [List.cons_append, List.takeWhile_cons, hD.1, if_pos rfl, List.length_cons, List.length_cons, ih hD.2]
end Go.Proofs.YtmfdifjkjkaheaaGreatDoor
