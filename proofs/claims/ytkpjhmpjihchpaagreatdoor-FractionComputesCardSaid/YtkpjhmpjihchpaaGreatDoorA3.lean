/- Part A3: lemmas and walks that the claim rests on. No claim is made here. -/
import Derived.Deep.RegionHeld3
import Derived.Deep.DrawnRows
import Derived.Lib.Atoi
import Derived.Lib.SlTrimSet
import Derived.Shelf.Strings.SlTrimAscii
import Derived.WalkSpells
import Derived.Test.YtkpjhmpjihchpaaGreatDoorA2
set_option linter.unusedVariables false
set_option maxHeartbeats 8000000
set_option maxRecDepth 100000
/- Walks: fractions: Root, Grid. -/
namespace Go.Proofs.YtkpjhmpjihchpaaGreatDoor
open Go Go.RowKit Bn
attribute [local go_sem ↓] Go.wp_at_zero Go.wp_at_succ
theorem IV.resz {w : World} {b : Bool} {A : Option Addr} {n c : Nat} {z : Int} {k K : Nat} (h : IV w b A n c z k) (hs : z.natAbs < 4294967296 ^ K) : IV w b A n c z K := IV.mk_ h.2.1 h.1 hs
theorem QV.resz {w : World} {b : Bool} {A : Option Addr} {n c : Nat} {D : Option Addr} {m e : Nat} {q : Rat} {k K : Nat} (h : QV w b A n c D m e q k) (hs : Sz q K) : QV w b A n c D m e q K := QV.mk_ h.2.1 h.2.2.1 h.1 hs
theorem RetFe.resz {w : World} {v : Value} {q : Rat} {k K : Nat} {e : Ending} {w' : World} (h : RetFe w v q k e w') (hs : Sz q K) : RetFe w v q K e w' := by
  obtain ⟨b, A, n, c, D, m, d, rfl, h, hb⟩ := h
  exact ⟨b, A, n, c, D, m, d, rfl, h.resz hs, hb⟩
theorem rootE_pos {z : Int} (h : 0 ≤ z) : rootE z = .nilIface := by unfold rootE; rw [if_neg (by omega)]
theorem rootZ_pos {z : Int} (h : 0 ≤ z) : rootZ z = (isq z.natAbs : Nat) := by unfold rootZ; rw [if_neg (by omega)]
theorem isq_ne {k : Nat} (h : k ≠ 0) (hs : isq k * isq k = k) : ((isq k : Nat) : Int) ≠ 0 := by
  intro e
  have : isq k = 0 := by omega
  rw [this] at hs
  omega
theorem cmp_sq0 {z : Int} (h : 0 ≤ z) (hs : isq z.natAbs * isq z.natAbs = z.natAbs) : cmpI (((isq z.natAbs : Nat) : Int) * ((isq z.natAbs : Nat) : Int)) z = 0 := by
  have : ((isq z.natAbs : Nat) : Int) * ((isq z.natAbs : Nat) : Int) = z := by
    rw [← Int.natCast_mul, hs]; omega
  rw [this]
  unfold cmpI
  rw [if_neg (by omega), if_pos rfl]
theorem cmp_sq1 {z : Int} (h : 0 ≤ z) (hs : ¬ isq z.natAbs * isq z.natAbs = z.natAbs) : cmpI (((isq z.natAbs : Nat) : Int) * ((isq z.natAbs : Nat) : Int)) z = -1 := by
  have h1 : isq z.natAbs * isq z.natAbs ≤ z.natAbs := isq_le _
  have : ((isq z.natAbs : Nat) : Int) * ((isq z.natAbs : Nat) : Int) < z := by
    rw [← Int.natCast_mul]; omega
  unfold cmpI
  rw [if_pos this]
theorem isq_lt {z : Int} {k : Nat} (h : z.natAbs < 4294967296 ^ k) : ((isq z.natAbs : Nat) : Int).natAbs < 4294967296 ^ k := by
  have h1 : isq z.natAbs * isq z.natAbs ≤ z.natAbs := isq_le _
  have h2 : isq z.natAbs ≤ z.natAbs := Nat.le_trans (by rcases Nat.eq_zero_or_pos (isq z.natAbs) with e | e; · rw [e]; omega
                                                        · exact Nat.le_mul_of_pos_left _ e) h1
  omega
theorem two_lt {t : Nat} (ht : t ≤ 256) : (((2 ^ t : Nat) : Int)).natAbs < 4294967296 ^ 9 := by
  have h1 : 2 ^ t ≤ 2 ^ 256 := Nat.pow_le_pow_right (by omega) ht
  have h2 : (2 : Nat) ^ 256 < 4294967296 ^ 9 := by decide
  rw [Int.natAbs_natCast]
  omega
theorem two_ne (t : Nat) : ((2 ^ t : Nat) : Int) ≠ 0 := by have := Nat.pow_pos (n := t) (show 0 < 2 by omega); omega
theorem f_two (w : World) (x : Int) (t : Nat) (hx : x = (t : Int)) (ht : t ≤ 256) : Calls Tryz.prog 108 #[.int .i64 x] w (RetI w ((2 ^ t : Nat) : Int) 9) := by
 subst hx
 have HT := Lib.hid (two_lt ht)
 obtain ⟨i, hi⟩ : ∃ i, t / 32 = i := ⟨_, rfl⟩
 obtain ⟨s, hs⟩ : ∃ s, t % 32 = s := ⟨_, rfl⟩
 have hs32 : s < 32 := by omega
 have hi2 : i ≤ 500000000 := by omega
 have e4 : (t : Int) / 32 = (i : Int) := by omega
 have e5 : (t : Int) % 32 = (s : Int) := by omega
 have HI := Lib.hid (And.intro hi hs)
 clear hi hs ht
 go_enter Tryz.func108, Tryz.ntmps108
 go_wp2_with (at_make; refine wpList_make_words _ rfl _ _ rfl _ _ _ _ (i + 1) rfl rfl (by omega) (by omega) (by omega) ?_; have z5 := blkAt (w.alloc (.cells #[.bool false, .slice none 0 0] 46)) (cellsOf (List.replicate (i + 1) 0)) 102 (g := w.heap.size + 1) (by simp); have fz := z5.frozen i; have cz := z5.cell i; rw [cellsOf_get (by simp)] at cz)
 refine bodyPost_ret (v := .agg #[.bool false, .slice (some ⟨w.heap.size + 1, 0, none⟩) (i + 1) (i + 1)]) (by simp [results, Tryz.results108, go_sem, *] <;> first | rfl | exact ⟨rfl, rfl⟩) rfl ?_
 refine ⟨_, _, _, _, rfl, IV.mk_ ?_ rfl HT.out, ((Below.refl _ _).alloc (Nat.le_refl _) _).alloc (by simp) _⟩
 obtain ⟨h5, hs6⟩ := root_first HI.out.1 HI.out.2
 have hl6 : (digs (2 ^ t)).length = i + 1 := by rw [← h5]; simp
 show Wd _ _ _ _ (digs (2 ^ t))
 have z6 := blkAt (w.alloc (.cells #[.bool false, .slice (some ⟨w.heap.size + 1, 0, none⟩) (i + 1) (i + 1)] 46)) (cellsOf (digs (2 ^ t))) 102 (g := w.heap.size + 1) (by simp)
 have e6 : (cellsOf (List.replicate (i + 1) 0)).setIfInBounds i (.int .u32 (2 ^ s % 4294967296)) = cellsOf (digs (2 ^ t)) := by
  rw [← h5, ← cellsOf_set]
  have : (2 ^ s % 4294967296 : Int) = ((2 ^ s : Nat) : Int) := by
   have hh : ((2 : Int) ^ s) = ((2 ^ s : Nat) : Int) := by simp
   rw [hh]
   clear hh
   generalize 2 ^ s = p at hs6 ⊢
   omega
  rw [this]
 rw [e6]
 have w6 := z6.wd_ (canon_digs (2 ^ t)).1
 rw [hl6] at w6
 exact w6
theorem i_cmp_v2 (w : World) (b : Bool) (A : Option Addr) (n c : Nat) (z : Int) (k : Nat) (h : IZ w b A n c z k) (b' : Bool) (A' : Option Addr) (n' c' : Nat) (z' : Int) (k' : Nat) (h' : IZ w b' A' n' c' z' k') (v : Int) (hv : cmpI z z' = v) (hk : k + k' ≤ 999999999) : Calls Tryz.prog 59 #[.agg #[.bool b, .slice A n c], .agg #[.bool b', .slice A' n' c']] w (RetV w (.int .i64 v)) := by
  subst hv; exact i_cmp w b A n c z k h b' A' n' c' z' k' h' (by omega)
theorem f_root_n (w : World) (b : Bool) (A : Option Addr) (n c : Nat) (D : Option Addr) (m e : Nat) (q : Rat) (k : Nat) (h : QZ w b A n c D m e q k) (h0 : 0 < k) (hk : k ≤ 1000000) (hx : q.num.sign = -1) :
  Calls Tryz.prog 47 #[.agg #[.bool b, .slice A n c, .slice D m e]] w (RetFe w (.bool false) 0 k) := by
 have HX := Lib.hid hx
 clear hx
 go_enter Tryz.func47, Tryz.ntmps47
 go_wp2_with fail
 (with_reducible refine (f_parts _ b A n c D m e (q) (k) ?_ ?_ ?_).mono ?_); (exact (h.belw (((Below.refl _ _).alloc (Nat.le_refl _) _).alloc (by simp) _))); (first | omega | decide | assumption); (first | omega | decide | assumption); rintro e w1 ⟨b1, A1, n1, c1, b'1, A'1, n'1, c'1, rfl, h1, h'1, hb1⟩
 have q1 := (((Below.refl _ _).alloc (Nat.le_refl _) _).alloc (by simp) _).trans (hb1.mono (by simp <;> omega))
 replace h := h.belw q1
 have x1a : Blk w1 w.heap.size 24 #[.bool b, .slice A n c, .slice D m e] := ((blkAt _ _ _ (by simp)).alloc _).below hb1 (by simp <;> omega)
 have x1b := (blkAt _ _ _ (g := w.heap.size + 1) (by simp)).below hb1 (by simp)
 have bw1 := (brefl w).trans (q1.mono (brefl w).size)
 have lw1 : w.heap.size + 2 ≤ w1.heap.size := by have := hb1.size; simp at this; omega
 clear q1
 go_wp2_with fail
 (with_reducible refine (i_sign_e _ b1 A1 n1 c1 ((q).num) ((k)) ?_ (-1) ?_ ?_).mono ?_); (exact (h1.belw (((Below.refl _ _).alloc (Nat.le_refl _) _).alloc (by simp) _)).iz); (exact HX.out); (omega); rintro e w2 ⟨rfl, hb2⟩
 have q2 := (((Below.refl _ _).alloc (Nat.le_refl _) _).alloc (by simp) _).trans (hb2.mono (by simp <;> omega))
 replace h := h.belw q2
 replace h1 := h1.belw q2
 replace h'1 := h'1.belw q2
 replace x1a := x1a.b q2
 replace x1b := x1b.b q2
 have x2a : Blk w2 w1.heap.size 46 #[.bool b1, .slice A1 n1 c1] := ((blkAt _ _ _ (by simp)).alloc _).below hb2 (by simp <;> omega)
 have x2b := (blkAt _ _ _ (g := w1.heap.size + 1) (by simp)).below hb2 (by simp)
 have bw2 := bw1.trans (q2.mono bw1.size)
 have lw2 : w1.heap.size + 2 ≤ w2.heap.size := by have := hb2.size; simp at this; omega
 clear q2 bw1
 obtain ⟨cx1ba, cx1bb, cx1bc⟩ := x1b.c3
 obtain ⟨fx1ba, fx1bb, fx1bc⟩ := x1b.f3
 obtain ⟨lx1ba, lx1bb, lx1bc, lx1bd⟩ := lts1 x1b.lt
 go_wp2_with fail
 refine bodyPost_ret (v := .tuple #[.agg #[.bool false, .slice none 0 0, .slice none 0 0], .bool false]) (by simp [results, Tryz.results47, go_sem, *] <;> first | rfl | exact ⟨rfl, rfl⟩) rfl ?_
 exact ⟨_, _, _, _, _, _, _, rfl, QV.zero _ _, (((bw2.sc (w.heap.size + 1) 0 (by omega) (.bool false)).sc (w.heap.size + 1) 1 (by omega) (.slice none 0 0)).sc (w.heap.size + 1) 2 (by omega) (.slice none 0 0))⟩
theorem f_root_a0 (w : World) (b : Bool) (A : Option Addr) (n c : Nat) (D : Option Addr) (m e : Nat) (q : Rat) (k : Nat) (h : QZ w b A n c D m e q k) (h0 : 0 < k) (hk : k ≤ 1000000) (hx : q.num.sign = 0) (h1 : isq q.num.natAbs * isq q.num.natAbs = q.num.natAbs) (h2 : isq q.den * isq q.den = q.den) :
    Calls Tryz.prog 47 #[.agg #[.bool b, .slice A n c, .slice D m e]] w (RetFe w (.bool true) (Rat.divInt ((isq q.num.natAbs : Nat) : Int) ((isq q.den : Nat) : Int)) k) := by
  have hp : 0 ≤ q.num := by rcases Int.lt_trichotomy q.num 0 with e | e | e
                            · rw [Int.sign_eq_neg_one_of_neg e] at hx; exact absurd hx (by decide)
                            · omega
                            · omega
  have HX := Lib.hid hx
  have HE1 := Lib.hid (And.intro (rootE_pos hp) (rootZ_pos hp))
  have HE2 := Lib.hid (And.intro (rootE_pos (z := (q.den : Int)) (by omega)) (rootZ_pos (z := (q.den : Int)) (by omega)))
  have HC1 := Lib.hid (cmp_sq0 hp h1)
  have HC2 := Lib.hid (cmp_sq0 (z := (q.den : Int)) (by omega) h2)
  have HD := Lib.hid (isq_ne (q.den_nz) h2)
  have hs := h.sz h0
  have HS := Lib.hid (Sz_divInt (isq_lt hs.1) (isq_lt (z := (q.den : Int)) (by simpa using hs.2)) h0)
  clear hs
  clear hx hp h1 h2
  go_enter Tryz.func47, Tryz.ntmps47
  go_wp2_with fail
  (with_reducible refine (f_parts _ b A n c D m e (q) (k) ?_ ?_ ?_).mono ?_); (exact (h.belw (((Below.refl _ _).alloc (Nat.le_refl _) _).alloc (by simp) _))); (first | omega | decide | assumption); (first | omega | decide | assumption); rintro e w1 ⟨b1, A1, n1, c1, b'1, A'1, n'1, c'1, rfl, h1, h'1, hb1⟩
  have q1 := (((Below.refl _ _).alloc (Nat.le_refl _) _).alloc (by simp) _).trans (hb1.mono (by simp <;> omega))
  replace h := h.belw q1
  have x1a : Blk w1 w.heap.size 24 #[.bool b, .slice A n c, .slice D m e] := ((blkAt _ _ _ (by simp)).alloc _).below hb1 (by simp <;> omega)
  have x1b := (blkAt _ _ _ (g := w.heap.size + 1) (by simp)).below hb1 (by simp)
  have bw1 := (brefl w).trans (q1.mono (brefl w).size)
  have lw1 : w.heap.size + 2 ≤ w1.heap.size := by have := hb1.size; simp at this; omega
  clear q1
  go_wp2_with fail
  (with_reducible refine (i_sign_e _ b1 A1 n1 c1 ((q).num) ((k)) ?_ 0 ?_ ?_).mono ?_); (exact (h1.belw (((Below.refl _ _).alloc (Nat.le_refl _) _).alloc (by simp) _)).iz); (exact HX.out); (omega); rintro e w2 ⟨rfl, hb2⟩
  have q2 := (((Below.refl _ _).alloc (Nat.le_refl _) _).alloc (by simp) _).trans (hb2.mono (by simp <;> omega))
  replace h := h.belw q2
  replace h1 := h1.belw q2
  replace h'1 := h'1.belw q2
  replace x1a := x1a.b q2
  replace x1b := x1b.b q2
  have x2a : Blk w2 w1.heap.size 46 #[.bool b1, .slice A1 n1 c1] := ((blkAt _ _ _ (by simp)).alloc _).below hb2 (by simp <;> omega)
  have x2b := (blkAt _ _ _ (g := w1.heap.size + 1) (by simp)).below hb2 (by simp)
  have bw2 := bw1.trans (q2.mono bw1.size)
  have lw2 : w1.heap.size + 2 ≤ w2.heap.size := by have := hb2.size; simp at this; omega
  clear q2 bw1
  obtain ⟨cx2aa, cx2ab⟩ := x2a.c2
  obtain ⟨lx2aa, lx2ab, lx2ac, lx2ad⟩ := lts0 x2a.lt
  go_wp2_with fail
  (with_reducible refine (i_root _ b1 A1 n1 c1 ((q).num) ((k)) ?_ (by omega) (.nilIface) HE1.out.1 ((isq (q.num).natAbs : Nat) : Int) HE1.out.2).mono ?_); (exact h1.iz); rintro e w3 ⟨b3, A3, n3, c3, rfl, h3, q3⟩
  clear cx2aa cx2ab lx2aa lx2ab lx2ac lx2ad
  replace h := h.belw q3
  replace h1 := h1.belw q3
  replace h'1 := h'1.belw q3
  replace x1a := x1a.b q3
  replace x1b := x1b.b q3
  replace x2a := x2a.b q3
  replace x2b := x2b.b q3
  have bw3 := bw2.trans (q3.mono bw2.size)
  have lw3 := q3.size
  clear q3 bw2
  obtain ⟨cx2ba, cx2bb⟩ := x2b.c2
  obtain ⟨lx2ba, lx2bb, lx2bc, lx2bd⟩ := lts1 x2b.lt
  go_wp2_with fail
  (with_reducible refine (i_root _ b'1 A'1 n'1 c'1 (((q).den : Int)) ((k)) ?_ (by omega) (.nilIface) HE2.out.1 ((isq ((q.den : Int)).natAbs : Nat) : Int) HE2.out.2).mono ?_); (exact (h'1.belw ((Below.refl _ _).alloc (Nat.le_refl _) _)).iz); rintro e w4 ⟨b4, A4, n4, c4, rfl, h4, hb4⟩
  clear cx2ba cx2bb lx2ba lx2bb lx2bc lx2bd
  have q4 := ((Below.refl _ _).alloc (Nat.le_refl _) _).trans (hb4.mono (by simp))
  replace h := h.belw q4
  replace h1 := h1.belw q4
  replace h'1 := h'1.belw q4
  replace h3 := h3.belw q4
  replace x1a := x1a.b q4
  replace x1b := x1b.b q4
  replace x2a := x2a.b q4
  replace x2b := x2b.b q4
  have x4a : Blk w4 w3.heap.size 46 #[.bool b3, .slice A3 n3 c3] := (blkAt _ _ _ (by simp)).below hb4 (by simp)
  have bw4 := bw3.trans (q4.mono bw3.size)
  have lw4 : w3.heap.size + 1 ≤ w4.heap.size := by have := hb4.size; simp at this; omega
  clear q4 bw3
  go_wp2_with fail
  have p5 := ((Kp.refl w4).alloc (.cells #[.bool b4, .slice A4 n4 c4] 46))
  have bw5 := (bw4.alloc (by first | omega | (simp <;> omega)) (.cells #[.bool b4, .slice A4 n4 c4] 46))
  have x5a : Blk (w4.alloc (.cells #[.bool b4, .slice A4 n4 c4] 46)) w4.heap.size 46 #[.bool b4, .slice A4 n4 c4] := (blkAt _ _ _ (by simp))
  replace x1a := (x1a.alloc (.cells #[.bool b4, .slice A4 n4 c4] 46))
  replace x1b := (x1b.alloc (.cells #[.bool b4, .slice A4 n4 c4] 46))
  replace x2a := (x2a.alloc (.cells #[.bool b4, .slice A4 n4 c4] 46))
  replace x2b := (x2b.alloc (.cells #[.bool b4, .slice A4 n4 c4] 46))
  replace x4a := (x4a.alloc (.cells #[.bool b4, .slice A4 n4 c4] 46))
  have lw5 : w4.heap.size + 1 ≤ (w4.alloc (.cells #[.bool b4, .slice A4 n4 c4] 46)).heap.size := by simp
  generalize hE5 : (w4.alloc (.cells #[.bool b4, .slice A4 n4 c4] 46)) = w5 at p5 bw5 lw5 x5a x1a x1b x2a x2b x4a ⊢
  clear hE5
  replace h := h.keep p5
  replace h1 := h1.keep p5
  replace h'1 := h'1.keep p5
  replace h3 := h3.keep p5
  replace h4 := h4.keep p5
  clear bw4
  obtain ⟨cx2aa, cx2ab⟩ := x2a.c2
  obtain ⟨lx2aa, lx2ab, lx2ac, lx2ad⟩ := lts0 x2a.lt
  obtain ⟨cx2ba, cx2bb⟩ := x2b.c2
  obtain ⟨lx2ba, lx2bb, lx2bc, lx2bd⟩ := lts1 x2b.lt
  obtain ⟨cx4aa, cx4ab⟩ := x4a.c2
  obtain ⟨lx4aa, lx4ab, lx4ac, lx4ad⟩ := lts0 x4a.lt
  obtain ⟨cx5aa, cx5ab⟩ := x5a.c2
  obtain ⟨lx5aa, lx5ab, lx5ac, lx5ad⟩ := lts0 x5a.lt
  refine wp_region_lin (B := w.heap.size) (fr := fun xf => ⟨List.toArray (.agg #[.bool b, .slice A n c, .slice D m e] :: .pointer (some ⟨w.heap.size, 0, none⟩) :: .pointer (some ⟨w.heap.size + 1, 0, none⟩) :: .bool false :: .pointer (some ⟨w1.heap.size, 0, none⟩) :: .pointer (some ⟨w1.heap.size + 1, 0, none⟩) :: .pointer (some ⟨w3.heap.size, 0, none⟩) :: .nilIface :: .pointer (some ⟨w4.heap.size, 0, none⟩) :: .nilIface :: .tuple #[.agg #[.bool b1, .slice A1 n1 c1], .agg #[.bool b'1, .slice A'1 n'1 c'1]] :: .agg #[.bool b, .slice A n c, .slice D m e] :: .tuple #[.agg #[.bool b1, .slice A1 n1 c1], .agg #[.bool b'1, .slice A'1 n'1 c'1]] :: .agg #[.bool b1, .slice A1 n1 c1] :: .agg #[.bool b'1, .slice A'1 n'1 c'1] :: .agg #[.bool b1, .slice A1 n1 c1] :: .int .i64 0 :: .bool false :: undef :: .tuple #[.agg #[.bool b3, .slice A3 n3 c3], .nilIface] :: .agg #[.bool b1, .slice A1 n1 c1] :: .tuple #[.agg #[.bool b3, .slice A3 n3 c3], .nilIface] :: .agg #[.bool b3, .slice A3 n3 c3] :: .nilIface :: .tuple #[.agg #[.bool b4, .slice A4 n4 c4], .nilIface] :: .agg #[.bool b'1, .slice A'1 n'1 c'1] :: .tuple #[.agg #[.bool b4, .slice A4 n4 c4], .nilIface] :: .agg #[.bool b4, .slice A4 n4 c4] :: .nilIface :: xf 0 :: xf 1 :: xf 2 :: xf 3 :: xf 4 :: xf 5 :: xf 6 :: xf 7 :: xf 8 :: xf 9 :: xf 10 :: xf 11 :: xf 12 :: xf 13 :: undef :: undef :: undef :: undef :: []), []⟩) (R := fun i => List.getD ((PEq (.agg #[.bool b3, .slice A3 n3 c3])) :: (PEq (.agg #[.bool b3, .slice A3 n3 c3])) :: (VI ((((isq (q.num).natAbs : Nat) : Int)) * (((isq (q.num).natAbs : Nat) : Int))) ((k) + (k))) :: (PEq (.agg #[.bool b1, .slice A1 n1 c1])) :: (PEq (.int .i64 (0))) :: (PEq (.bool false)) :: (PEq (.bool false)) :: (PEq (.agg #[.bool b4, .slice A4 n4 c4])) :: (PEq (.agg #[.bool b4, .slice A4 n4 c4])) :: (VI ((((isq ((q.den : Int)).natAbs : Nat) : Int)) * (((isq ((q.den : Int)).natAbs : Nat) : Int))) ((k) + (k))) :: (PEq (.agg #[.bool b'1, .slice A'1 n'1 c'1])) :: (PEq (.int .i64 (0))) :: (PEq (.bool false)) :: (PEq (.bool false)) :: []) i (fun _ _ => True)) (es := []) (ow := [⟨w.heap.size, 14, 0, 24, #[.bool b, .slice A n c, .slice D m e], CAny⟩, ⟨w.heap.size + 1, 14, 0, 24, #[.bool false, .slice none 0 0, .slice none 0 0], CAny⟩, ⟨w1.heap.size, 14, 0, 46, #[.bool b1, .slice A1 n1 c1], CAny⟩, ⟨w1.heap.size + 1, 14, 0, 46, #[.bool b'1, .slice A'1 n'1 c'1], CAny⟩, ⟨w3.heap.size, 14, 0, 46, #[.bool b3, .slice A3 n3 c3], CAny⟩, ⟨w4.heap.size, 14, 0, 46, #[.bool b4, .slice A4 n4 c4], CAny⟩]) (x0 := (fun _ => undef)) (by kernel_rfl)
    (each_of ⟨fun _ _ => rfl, fun _ _ => rfl, fun _ _ => rfl, fun _ _ => rfl, fun _ _ => rfl, fun _ _ => rfl, fun _ _ => rfl, fun _ _ => rfl, fun _ _ => rfl, fun _ _ => rfl, fun _ _ => rfl, fun _ _ => rfl, fun _ _ => rfl, fun _ _ => rfl, trivial⟩) (each_of (acyc_from _ 0 (by kernel_rfl))) (AllStab.get _ ⟨stEq _, stEq _, stI _ _, stEq _, stEq _, stEq _, stEq _, stEq _, stEq _, stI _ _, stEq _, stEq _, stEq _, stEq _, trivial⟩)
    (fun _ h => nomatch h) (List.forall_mem_cons.2 ⟨scAny, List.forall_mem_cons.2 ⟨scAny, List.forall_mem_cons.2 ⟨scAny, List.forall_mem_cons.2 ⟨scAny, List.forall_mem_cons.2 ⟨scAny, List.forall_mem_cons.2 ⟨scAny, fun _ h => nomatch h⟩⟩⟩⟩⟩⟩) (fun _ h => nomatch h) bw5.size
    (List.forall_mem_cons.2 ⟨⟨x1a, by show w.heap.size ≤ w.heap.size; omega⟩, List.forall_mem_cons.2 ⟨⟨x1b, by show w.heap.size ≤ w.heap.size + 1; omega⟩, List.forall_mem_cons.2 ⟨⟨x2a, by show w.heap.size ≤ w1.heap.size; omega⟩, List.forall_mem_cons.2 ⟨⟨x2b, by show w.heap.size ≤ w1.heap.size + 1; omega⟩, List.forall_mem_cons.2 ⟨⟨x4a, by show w.heap.size ≤ w3.heap.size; omega⟩, List.forall_mem_cons.2 ⟨⟨x5a, by show w.heap.size ≤ w4.heap.size; omega⟩, fun _ h => nomatch h⟩⟩⟩⟩⟩⟩) (ownDist (by simp <;> omega))
    (each_of ⟨?_, ?_, ?_, ?_, ?_, ?_, ?_, ?_, ?_, ?_, ?_, ?_, ?_, ?_, trivial⟩) ?_
  · exact .inl ⟨by simp, by simp, fun xf wq hk hbl hd K hK => by
      have y : Blk wq w3.heap.size 46 #[.bool b3, .slice A3 n3 c3] := hbl _ (List.Mem.tail _ (List.Mem.tail _ (List.Mem.tail _ (List.Mem.tail _ (List.Mem.head _))))) (by simp [Region.binds])
      obtain ⟨hcl0, hcl1⟩ := y.c2
      (try dsimp only)
      go_simp
      exact hK.out (.agg #[.bool b3, .slice A3 n3 c3]) _ rfl (brefl _)⟩
  · exact .inl ⟨by simp, by simp, fun xf wq hk hbl hd K hK => by
      have y : Blk wq w3.heap.size 46 #[.bool b3, .slice A3 n3 c3] := hbl _ (List.Mem.tail _ (List.Mem.tail _ (List.Mem.tail _ (List.Mem.tail _ (List.Mem.head _))))) (by simp [Region.binds])
      obtain ⟨hcl0, hcl1⟩ := y.c2
      (try dsimp only)
      go_simp
      exact hK.out (.agg #[.bool b3, .slice A3 n3 c3]) _ rfl (brefl _)⟩
  · exact .inl ⟨by simp, by simp, fun xf wq hk hbl hd K hK => by
      have dq0 : xf 0 = .agg #[.bool b3, .slice A3 n3 c3] := hd ⟨0, .data⟩ (by simp) rfl
      have dq1 : xf 1 = .agg #[.bool b3, .slice A3 n3 c3] := hd ⟨1, .data⟩ (by simp) rfl
      (try dsimp only); (try simp only [dq0, dq1])
      go_simp
      go_at_call 106
      (with_reducible refine (i_mul _ b3 A3 n3 c3 (((isq (q.num).natAbs : Nat) : Int)) (k) ?_ b3 A3 n3 c3 (((isq (q.num).natAbs : Nat) : Int)) (k) ?_ ?_).mono ?_); (exact (h3.keep hk).iz); (exact (h3.keep hk).iz); (first | omega | decide | assumption); rintro e wr ⟨b7, A7, n7, c7, rfl, h7, hbr⟩
      have hz := hK.out _ _ ⟨b7, A7, n7, c7, rfl, h7⟩ hbr
      simp only [dq0, dq1] at hz
      exact hz⟩
  · exact .inl ⟨by simp, by simp, fun xf wq hk hbl hd K hK => by
      have y : Blk wq w1.heap.size 46 #[.bool b1, .slice A1 n1 c1] := hbl _ (List.Mem.tail _ (List.Mem.tail _ (List.Mem.head _))) (by simp [Region.binds])
      obtain ⟨hcl0, hcl1⟩ := y.c2
      (try dsimp only)
      go_simp
      exact hK.out (.agg #[.bool b1, .slice A1 n1 c1]) _ rfl (brefl _)⟩
  · exact .inl ⟨by simp, by simp, fun xf wq hk hbl hd K hK => by
      obtain ⟨b7, A7, n7, c7, dq2, h7⟩ : VI ((((isq (q.num).natAbs : Nat) : Int)) * (((isq (q.num).natAbs : Nat) : Int))) ((k) + (k)) (xf 2) wq := hd ⟨2, .data⟩ (by simp) rfl
      have dq3 : xf 3 = .agg #[.bool b1, .slice A1 n1 c1] := hd ⟨3, .data⟩ (by simp) rfl
      (try dsimp only); (try simp only [dq2, dq3])
      go_simp
      go_at_call 59
      (with_reducible refine (i_cmp_v2 _ b7 A7 n7 c7 ((((isq (q.num).natAbs : Nat) : Int)) * (((isq (q.num).natAbs : Nat) : Int))) ((k) + (k)) ?_ b1 A1 n1 c1 ((q).num) ((k)) ?_ (0) HC1.out ?_).mono ?_); (exact h7.iz); (exact (h1.keep hk).iz); (first | omega | assumption); rintro e wr ⟨rfl, hbr⟩
      have hz := hK.out (.int .i64 (0)) _ rfl hbr
      simp only [dq2, dq3] at hz
      exact hz⟩
  · exact .inl ⟨by simp, by simp, fun xf wq hk hbl hd K hK => by
      have dq4 : xf 4 = .int .i64 (0) := hd ⟨4, .data⟩ (by simp) rfl
      (try dsimp only); (try simp only [dq4])
      go_simp
      have hz := hK.out (.bool false) _ rfl (brefl _)
      simp only [dq4] at hz
      exact hz⟩
  · exact .inl ⟨by simp, by simp, fun xf wq hk hbl hd K hK => by
      have dq5 : xf 5 = .bool false := hd ⟨5, .data⟩ (by simp) rfl
      (try dsimp only); (try simp only [dq5])
      go_simp
      have hz := hK.out (.bool false) _ rfl (brefl _)
      simp only [dq5] at hz
      exact hz⟩
  · exact .inl ⟨by simp, by simp, fun xf wq hk hbl hd K hK => by
      have dq6 : xf 6 = .bool false := hd ⟨6, .guard⟩ (by simp) rfl
      have y : Blk wq w4.heap.size 46 #[.bool b4, .slice A4 n4 c4] := hbl _ (List.Mem.tail _ (List.Mem.tail _ (List.Mem.tail _ (List.Mem.tail _ (List.Mem.tail _ (List.Mem.head _)))))) (by simp [Region.binds])
      obtain ⟨hcl0, hcl1⟩ := y.c2
      (try dsimp only); (try simp only [dq6])
      go_simp
      have hz := hK.out (.agg #[.bool b4, .slice A4 n4 c4]) _ rfl (brefl _)
      simp only [dq6] at hz
      exact hz⟩
  · exact .inl ⟨by simp, by simp, fun xf wq hk hbl hd K hK => by
      have dq6 : xf 6 = .bool false := hd ⟨6, .guard⟩ (by simp) rfl
      have y : Blk wq w4.heap.size 46 #[.bool b4, .slice A4 n4 c4] := hbl _ (List.Mem.tail _ (List.Mem.tail _ (List.Mem.tail _ (List.Mem.tail _ (List.Mem.tail _ (List.Mem.head _)))))) (by simp [Region.binds])
      obtain ⟨hcl0, hcl1⟩ := y.c2
      (try dsimp only); (try simp only [dq6])
      go_simp
      have hz := hK.out (.agg #[.bool b4, .slice A4 n4 c4]) _ rfl (brefl _)
      simp only [dq6] at hz
      exact hz⟩
  · exact .inl ⟨by simp, by simp, fun xf wq hk hbl hd K hK => by
      have dq7 : xf 7 = .agg #[.bool b4, .slice A4 n4 c4] := hd ⟨7, .data⟩ (by simp) rfl
      have dq8 : xf 8 = .agg #[.bool b4, .slice A4 n4 c4] := hd ⟨8, .data⟩ (by simp) rfl
      have dq6 : xf 6 = .bool false := hd ⟨6, .guard⟩ (by simp) rfl
      (try dsimp only); (try simp only [dq7, dq8, dq6])
      go_simp
      go_at_call 106
      (with_reducible refine (i_mul _ b4 A4 n4 c4 (((isq ((q.den : Int)).natAbs : Nat) : Int)) (k) ?_ b4 A4 n4 c4 (((isq ((q.den : Int)).natAbs : Nat) : Int)) (k) ?_ ?_).mono ?_); (exact (h4.keep hk).iz); (exact (h4.keep hk).iz); (first | omega | decide | assumption); rintro e wr ⟨b9, A9, n9, c9, rfl, h9, hbr⟩
      have hz := hK.out _ _ ⟨b9, A9, n9, c9, rfl, h9⟩ hbr
      simp only [dq7, dq8, dq6] at hz
      exact hz⟩
  · exact .inl ⟨by simp, by simp, fun xf wq hk hbl hd K hK => by
      have dq6 : xf 6 = .bool false := hd ⟨6, .guard⟩ (by simp) rfl
      have y : Blk wq (w1.heap.size + 1) 46 #[.bool b'1, .slice A'1 n'1 c'1] := hbl _ (List.Mem.tail _ (List.Mem.tail _ (List.Mem.tail _ (List.Mem.head _)))) (by simp [Region.binds])
      obtain ⟨hcl0, hcl1⟩ := y.c2
      (try dsimp only); (try simp only [dq6])
      go_simp
      have hz := hK.out (.agg #[.bool b'1, .slice A'1 n'1 c'1]) _ rfl (brefl _)
      simp only [dq6] at hz
      exact hz⟩
  · exact .inl ⟨by simp, by simp, fun xf wq hk hbl hd K hK => by
      obtain ⟨b9, A9, n9, c9, dq9, h9⟩ : VI ((((isq ((q.den : Int)).natAbs : Nat) : Int)) * (((isq ((q.den : Int)).natAbs : Nat) : Int))) ((k) + (k)) (xf 9) wq := hd ⟨9, .data⟩ (by simp) rfl
      have dq10 : xf 10 = .agg #[.bool b'1, .slice A'1 n'1 c'1] := hd ⟨10, .data⟩ (by simp) rfl
      have dq6 : xf 6 = .bool false := hd ⟨6, .guard⟩ (by simp) rfl
      (try dsimp only); (try simp only [dq9, dq10, dq6])
      go_simp
      go_at_call 59
      (with_reducible refine (i_cmp_v2 _ b9 A9 n9 c9 ((((isq ((q.den : Int)).natAbs : Nat) : Int)) * (((isq ((q.den : Int)).natAbs : Nat) : Int))) ((k) + (k)) ?_ b'1 A'1 n'1 c'1 (((q).den : Int)) ((k)) ?_ (0) HC2.out ?_).mono ?_); (exact h9.iz); (exact (h'1.keep hk).iz); (first | omega | assumption); rintro e wr ⟨rfl, hbr⟩
      have hz := hK.out (.int .i64 (0)) _ rfl hbr
      simp only [dq9, dq10, dq6] at hz
      exact hz⟩
  · exact .inl ⟨by simp, by simp, fun xf wq hk hbl hd K hK => by
      have dq11 : xf 11 = .int .i64 (0) := hd ⟨11, .data⟩ (by simp) rfl
      have dq6 : xf 6 = .bool false := hd ⟨6, .guard⟩ (by simp) rfl
      (try dsimp only); (try simp only [dq11, dq6])
      go_simp
      have hz := hK.out (.bool false) _ rfl (brefl _)
      simp only [dq11, dq6] at hz
      exact hz⟩
  · exact .inl ⟨by simp, by simp, fun xf wq hk hbl hd K hK => by
      have dq6 : xf 6 = .bool false := hd ⟨6, .data⟩ (by simp) rfl
      have dq12 : xf 12 = .bool false := hd ⟨12, .data⟩ (by simp) rfl
      (try dsimp only); (try simp only [dq6, dq12])
      go_simp
      have hz := hK.out (.bool false) _ rfl (brefl _)
      simp only [dq6, dq12] at hz
      exact hz⟩
  clear cx2aa cx2ab lx2aa lx2ab lx2ac lx2ad cx2ba cx2bb lx2ba lx2bb lx2bc lx2bd cx4aa cx4ab lx4aa lx4ab lx4ac lx4ad cx5aa cx5ab lx5aa lx5ab lx5ac lx5ad
  intro y6 w6 kq6 hbl6 lw6 how hrr hfl hds
  replace h := h.keep kq6
  replace h1 := h1.keep kq6
  replace h'1 := h'1.keep kq6
  replace h3 := h3.keep kq6
  replace h4 := h4.keep kq6
  obtain ⟨_, z6_0, ez, _⟩ := how _ (List.Mem.head _)
  obtain rfl := ez (by simp)
  dsimp only at z6_0
  obtain ⟨_, z6_1, ez, _⟩ := how _ (List.Mem.tail _ (List.Mem.head _))
  obtain rfl := ez (by simp)
  dsimp only at z6_1
  obtain ⟨_, z6_2, ez, _⟩ := how _ (List.Mem.tail _ (List.Mem.tail _ (List.Mem.head _)))
  obtain rfl := ez (by simp)
  dsimp only at z6_2
  obtain ⟨_, z6_3, ez, _⟩ := how _ (List.Mem.tail _ (List.Mem.tail _ (List.Mem.tail _ (List.Mem.head _))))
  obtain rfl := ez (by simp)
  dsimp only at z6_3
  obtain ⟨_, z6_4, ez, _⟩ := how _ (List.Mem.tail _ (List.Mem.tail _ (List.Mem.tail _ (List.Mem.tail _ (List.Mem.head _)))))
  obtain rfl := ez (by simp)
  dsimp only at z6_4
  obtain ⟨_, z6_5, ez, _⟩ := how _ (List.Mem.tail _ (List.Mem.tail _ (List.Mem.tail _ (List.Mem.tail _ (List.Mem.tail _ (List.Mem.head _))))))
  obtain rfl := ez (by simp)
  dsimp only at z6_5
  have ea13 : y6 13 = .bool false := hrr 13 (by simp)
  (try dsimp only)
  simp only [ea13]
  clear hrr hfl how hds ea13
  clear x1a x1b x2a x2b x4a x5a
  have bw6 := bw5.trans hbl6
  clear bw5
  have cz6_4_0 : w6.cell? ⟨w3.heap.size, 0, none⟩ = some (.bool b3) := z6_4.cell 0
  have cz6_4_1 : w6.cell? ⟨w3.heap.size, 1, none⟩ = some (.slice A3 n3 c3) := z6_4.cell 1
  obtain ⟨lz6_4_0, lz6_4_1, lz6_4_2, lz6_4_3⟩ := lts0 z6_4.lt
  have cz6_5_0 : w6.cell? ⟨w4.heap.size, 0, none⟩ = some (.bool b4) := z6_5.cell 0
  have cz6_5_1 : w6.cell? ⟨w4.heap.size, 1, none⟩ = some (.slice A4 n4 c4) := z6_5.cell 1
  obtain ⟨lz6_5_0, lz6_5_1, lz6_5_2, lz6_5_3⟩ := lts0 z6_5.lt
  go_wp2_with fail
  (with_reducible refine (f_form _ b3 A3 n3 c3 (((isq (q.num).natAbs : Nat) : Int)) (k) ?_ b4 A4 n4 c4 (((isq ((q.den : Int)).natAbs : Nat) : Int)) (k) ?_ (Rat.divInt ((isq q.num.natAbs : Nat) : Int) ((isq q.den : Nat) : Int)) k ?_ ?_ ?_ ?_).mono ?_); (exact h3.iz); (exact h4.iz); (exact HD.out); (rfl); (exact HS.out); (omega); rintro e w12 ⟨b12, A12, n12, c12, A'12, n'12, c'12, rfl, h12, q12⟩
  clear cz6_4_0 cz6_4_1 lz6_4_0 lz6_4_1 lz6_4_2 lz6_4_3 cz6_5_0 cz6_5_1 lz6_5_0 lz6_5_1 lz6_5_2 lz6_5_3
  replace h := h.belw q12
  replace h1 := h1.belw q12
  replace h'1 := h'1.belw q12
  replace h3 := h3.belw q12
  replace h4 := h4.belw q12
  replace z6_0 := z6_0.b q12
  replace z6_1 := z6_1.b q12
  replace z6_2 := z6_2.b q12
  replace z6_3 := z6_3.b q12
  replace z6_4 := z6_4.b q12
  replace z6_5 := z6_5.b q12
  have bw12 := bw6.trans (q12.mono bw6.size)
  have lw12 := q12.size
  clear q12 bw6
  obtain ⟨cz6_1_0, cz6_1_1, cz6_1_2⟩ := z6_1.c3
  obtain ⟨fz6_1_0, fz6_1_1, fz6_1_2⟩ := z6_1.f3
  obtain ⟨lz6_1_0, lz6_1_1, lz6_1_2, lz6_1_3⟩ := lts1 z6_1.lt
  go_wp2_with fail
  refine bodyPost_ret (v := .tuple #[.agg #[.bool b12, .slice A12 n12 c12, .slice A'12 n'12 c'12], .bool true]) (by simp [results, Tryz.results47, go_sem, *] <;> first | rfl | exact ⟨rfl, rfl⟩) rfl ?_
  exact ⟨b12, A12, n12, c12, A'12, n'12, c'12, rfl, h12.keep ((((Kp.refl w12).sb (w.heap.size + 1) 0 z6_1.box (by decide) (.bool b12)).sb (w.heap.size + 1) 1 (z6_1.box.set ⟨w.heap.size + 1, 0, none⟩ (.bool b12)) (by decide) (.slice A12 n12 c12)).sb (w.heap.size + 1) 2 ((z6_1.box.set ⟨w.heap.size + 1, 0, none⟩ (.bool b12)).set ⟨w.heap.size + 1, 1, none⟩ (.slice A12 n12 c12)) (by decide) (.slice A'12 n'12 c'12)), (((bw12.sc (w.heap.size + 1) 0 (by omega) (.bool b12)).sc (w.heap.size + 1) 1 (by omega) (.slice A12 n12 c12)).sc (w.heap.size + 1) 2 (by omega) (.slice A'12 n'12 c'12))⟩
theorem f_root_b0 (w : World) (b : Bool) (A : Option Addr) (n c : Nat) (D : Option Addr) (m e : Nat) (q : Rat) (k : Nat) (h : QZ w b A n c D m e q k) (h0 : 0 < k) (hk : k ≤ 1000000) (hx : q.num.sign = 0) (h1 : isq q.num.natAbs * isq q.num.natAbs = q.num.natAbs) (h2 : ¬ isq q.den * isq q.den = q.den) :
    Calls Tryz.prog 47 #[.agg #[.bool b, .slice A n c, .slice D m e]] w (RetFe w (.bool false) (0) k) := by
  have hp : 0 ≤ q.num := by rcases Int.lt_trichotomy q.num 0 with e | e | e
                            · rw [Int.sign_eq_neg_one_of_neg e] at hx; exact absurd hx (by decide)
                            · omega
                            · omega
  have HX := Lib.hid hx
  have HE1 := Lib.hid (And.intro (rootE_pos hp) (rootZ_pos hp))
  have HE2 := Lib.hid (And.intro (rootE_pos (z := (q.den : Int)) (by omega)) (rootZ_pos (z := (q.den : Int)) (by omega)))
  have HC1 := Lib.hid (cmp_sq0 hp h1)
  have HC2 := Lib.hid (cmp_sq1 (z := (q.den : Int)) (by omega) h2)
  clear hx hp h1 h2
  go_enter Tryz.func47, Tryz.ntmps47
  go_wp2_with fail
  (with_reducible refine (f_parts _ b A n c D m e (q) (k) ?_ ?_ ?_).mono ?_); (exact (h.belw (((Below.refl _ _).alloc (Nat.le_refl _) _).alloc (by simp) _))); (first | omega | decide | assumption); (first | omega | decide | assumption); rintro e w1 ⟨b1, A1, n1, c1, b'1, A'1, n'1, c'1, rfl, h1, h'1, hb1⟩
  have q1 := (((Below.refl _ _).alloc (Nat.le_refl _) _).alloc (by simp) _).trans (hb1.mono (by simp <;> omega))
  replace h := h.belw q1
  have x1a : Blk w1 w.heap.size 24 #[.bool b, .slice A n c, .slice D m e] := ((blkAt _ _ _ (by simp)).alloc _).below hb1 (by simp <;> omega)
  have x1b := (blkAt _ _ _ (g := w.heap.size + 1) (by simp)).below hb1 (by simp)
  have bw1 := (brefl w).trans (q1.mono (brefl w).size)
  have lw1 : w.heap.size + 2 ≤ w1.heap.size := by have := hb1.size; simp at this; omega
  clear q1
  go_wp2_with fail
  (with_reducible refine (i_sign_e _ b1 A1 n1 c1 ((q).num) ((k)) ?_ 0 ?_ ?_).mono ?_); (exact (h1.belw (((Below.refl _ _).alloc (Nat.le_refl _) _).alloc (by simp) _)).iz); (exact HX.out); (omega); rintro e w2 ⟨rfl, hb2⟩
  have q2 := (((Below.refl _ _).alloc (Nat.le_refl _) _).alloc (by simp) _).trans (hb2.mono (by simp <;> omega))
  replace h := h.belw q2
  replace h1 := h1.belw q2
  replace h'1 := h'1.belw q2
  replace x1a := x1a.b q2
  replace x1b := x1b.b q2
  have x2a : Blk w2 w1.heap.size 46 #[.bool b1, .slice A1 n1 c1] := ((blkAt _ _ _ (by simp)).alloc _).below hb2 (by simp <;> omega)
  have x2b := (blkAt _ _ _ (g := w1.heap.size + 1) (by simp)).below hb2 (by simp)
  have bw2 := bw1.trans (q2.mono bw1.size)
  have lw2 : w1.heap.size + 2 ≤ w2.heap.size := by have := hb2.size; simp at this; omega
  clear q2 bw1
  obtain ⟨cx2aa, cx2ab⟩ := x2a.c2
  obtain ⟨lx2aa, lx2ab, lx2ac, lx2ad⟩ := lts0 x2a.lt
  go_wp2_with fail
  (with_reducible refine (i_root _ b1 A1 n1 c1 ((q).num) ((k)) ?_ (by omega) (.nilIface) HE1.out.1 ((isq (q.num).natAbs : Nat) : Int) HE1.out.2).mono ?_); (exact h1.iz); rintro e w3 ⟨b3, A3, n3, c3, rfl, h3, q3⟩
  clear cx2aa cx2ab lx2aa lx2ab lx2ac lx2ad
  replace h := h.belw q3
  replace h1 := h1.belw q3
  replace h'1 := h'1.belw q3
  replace x1a := x1a.b q3
  replace x1b := x1b.b q3
  replace x2a := x2a.b q3
  replace x2b := x2b.b q3
  have bw3 := bw2.trans (q3.mono bw2.size)
  have lw3 := q3.size
  clear q3 bw2
  obtain ⟨cx2ba, cx2bb⟩ := x2b.c2
  obtain ⟨lx2ba, lx2bb, lx2bc, lx2bd⟩ := lts1 x2b.lt
  go_wp2_with fail
  (with_reducible refine (i_root _ b'1 A'1 n'1 c'1 (((q).den : Int)) ((k)) ?_ (by omega) (.nilIface) HE2.out.1 ((isq ((q.den : Int)).natAbs : Nat) : Int) HE2.out.2).mono ?_); (exact (h'1.belw ((Below.refl _ _).alloc (Nat.le_refl _) _)).iz); rintro e w4 ⟨b4, A4, n4, c4, rfl, h4, hb4⟩
  clear cx2ba cx2bb lx2ba lx2bb lx2bc lx2bd
  have q4 := ((Below.refl _ _).alloc (Nat.le_refl _) _).trans (hb4.mono (by simp))
  replace h := h.belw q4
  replace h1 := h1.belw q4
  replace h'1 := h'1.belw q4
  replace h3 := h3.belw q4
  replace x1a := x1a.b q4
  replace x1b := x1b.b q4
  replace x2a := x2a.b q4
  replace x2b := x2b.b q4
  have x4a : Blk w4 w3.heap.size 46 #[.bool b3, .slice A3 n3 c3] := (blkAt _ _ _ (by simp)).below hb4 (by simp)
  have bw4 := bw3.trans (q4.mono bw3.size)
  have lw4 : w3.heap.size + 1 ≤ w4.heap.size := by have := hb4.size; simp at this; omega
  clear q4 bw3
  go_wp2_with fail
  have p5 := ((Kp.refl w4).alloc (.cells #[.bool b4, .slice A4 n4 c4] 46))
  have bw5 := (bw4.alloc (by first | omega | (simp <;> omega)) (.cells #[.bool b4, .slice A4 n4 c4] 46))
  have x5a : Blk (w4.alloc (.cells #[.bool b4, .slice A4 n4 c4] 46)) w4.heap.size 46 #[.bool b4, .slice A4 n4 c4] := (blkAt _ _ _ (by simp))
  replace x1a := (x1a.alloc (.cells #[.bool b4, .slice A4 n4 c4] 46))
  replace x1b := (x1b.alloc (.cells #[.bool b4, .slice A4 n4 c4] 46))
  replace x2a := (x2a.alloc (.cells #[.bool b4, .slice A4 n4 c4] 46))
  replace x2b := (x2b.alloc (.cells #[.bool b4, .slice A4 n4 c4] 46))
  replace x4a := (x4a.alloc (.cells #[.bool b4, .slice A4 n4 c4] 46))
  have lw5 : w4.heap.size + 1 ≤ (w4.alloc (.cells #[.bool b4, .slice A4 n4 c4] 46)).heap.size := by simp
  generalize hE5 : (w4.alloc (.cells #[.bool b4, .slice A4 n4 c4] 46)) = w5 at p5 bw5 lw5 x5a x1a x1b x2a x2b x4a ⊢
  clear hE5
  replace h := h.keep p5
  replace h1 := h1.keep p5
  replace h'1 := h'1.keep p5
  replace h3 := h3.keep p5
  replace h4 := h4.keep p5
  clear bw4
  obtain ⟨cx2aa, cx2ab⟩ := x2a.c2
  obtain ⟨lx2aa, lx2ab, lx2ac, lx2ad⟩ := lts0 x2a.lt
  obtain ⟨cx2ba, cx2bb⟩ := x2b.c2
  obtain ⟨lx2ba, lx2bb, lx2bc, lx2bd⟩ := lts1 x2b.lt
  obtain ⟨cx4aa, cx4ab⟩ := x4a.c2
  obtain ⟨lx4aa, lx4ab, lx4ac, lx4ad⟩ := lts0 x4a.lt
  obtain ⟨cx5aa, cx5ab⟩ := x5a.c2
  obtain ⟨lx5aa, lx5ab, lx5ac, lx5ad⟩ := lts0 x5a.lt
  refine wp_region_lin (B := w.heap.size) (fr := fun xf => ⟨List.toArray (.agg #[.bool b, .slice A n c, .slice D m e] :: .pointer (some ⟨w.heap.size, 0, none⟩) :: .pointer (some ⟨w.heap.size + 1, 0, none⟩) :: .bool false :: .pointer (some ⟨w1.heap.size, 0, none⟩) :: .pointer (some ⟨w1.heap.size + 1, 0, none⟩) :: .pointer (some ⟨w3.heap.size, 0, none⟩) :: .nilIface :: .pointer (some ⟨w4.heap.size, 0, none⟩) :: .nilIface :: .tuple #[.agg #[.bool b1, .slice A1 n1 c1], .agg #[.bool b'1, .slice A'1 n'1 c'1]] :: .agg #[.bool b, .slice A n c, .slice D m e] :: .tuple #[.agg #[.bool b1, .slice A1 n1 c1], .agg #[.bool b'1, .slice A'1 n'1 c'1]] :: .agg #[.bool b1, .slice A1 n1 c1] :: .agg #[.bool b'1, .slice A'1 n'1 c'1] :: .agg #[.bool b1, .slice A1 n1 c1] :: .int .i64 0 :: .bool false :: undef :: .tuple #[.agg #[.bool b3, .slice A3 n3 c3], .nilIface] :: .agg #[.bool b1, .slice A1 n1 c1] :: .tuple #[.agg #[.bool b3, .slice A3 n3 c3], .nilIface] :: .agg #[.bool b3, .slice A3 n3 c3] :: .nilIface :: .tuple #[.agg #[.bool b4, .slice A4 n4 c4], .nilIface] :: .agg #[.bool b'1, .slice A'1 n'1 c'1] :: .tuple #[.agg #[.bool b4, .slice A4 n4 c4], .nilIface] :: .agg #[.bool b4, .slice A4 n4 c4] :: .nilIface :: xf 0 :: xf 1 :: xf 2 :: xf 3 :: xf 4 :: xf 5 :: xf 6 :: xf 7 :: xf 8 :: xf 9 :: xf 10 :: xf 11 :: xf 12 :: xf 13 :: undef :: undef :: undef :: undef :: []), []⟩) (R := fun i => List.getD ((PEq (.agg #[.bool b3, .slice A3 n3 c3])) :: (PEq (.agg #[.bool b3, .slice A3 n3 c3])) :: (VI ((((isq (q.num).natAbs : Nat) : Int)) * (((isq (q.num).natAbs : Nat) : Int))) ((k) + (k))) :: (PEq (.agg #[.bool b1, .slice A1 n1 c1])) :: (PEq (.int .i64 (0))) :: (PEq (.bool false)) :: (PEq (.bool false)) :: (PEq (.agg #[.bool b4, .slice A4 n4 c4])) :: (PEq (.agg #[.bool b4, .slice A4 n4 c4])) :: (VI ((((isq ((q.den : Int)).natAbs : Nat) : Int)) * (((isq ((q.den : Int)).natAbs : Nat) : Int))) ((k) + (k))) :: (PEq (.agg #[.bool b'1, .slice A'1 n'1 c'1])) :: (PEq (.int .i64 (-1))) :: (PEq (.bool true)) :: (PEq (.bool true)) :: []) i (fun _ _ => True)) (es := []) (ow := [⟨w.heap.size, 14, 0, 24, #[.bool b, .slice A n c, .slice D m e], CAny⟩, ⟨w.heap.size + 1, 14, 0, 24, #[.bool false, .slice none 0 0, .slice none 0 0], CAny⟩, ⟨w1.heap.size, 14, 0, 46, #[.bool b1, .slice A1 n1 c1], CAny⟩, ⟨w1.heap.size + 1, 14, 0, 46, #[.bool b'1, .slice A'1 n'1 c'1], CAny⟩, ⟨w3.heap.size, 14, 0, 46, #[.bool b3, .slice A3 n3 c3], CAny⟩, ⟨w4.heap.size, 14, 0, 46, #[.bool b4, .slice A4 n4 c4], CAny⟩]) (x0 := (fun _ => undef)) (by kernel_rfl)
    (each_of ⟨fun _ _ => rfl, fun _ _ => rfl, fun _ _ => rfl, fun _ _ => rfl, fun _ _ => rfl, fun _ _ => rfl, fun _ _ => rfl, fun _ _ => rfl, fun _ _ => rfl, fun _ _ => rfl, fun _ _ => rfl, fun _ _ => rfl, fun _ _ => rfl, fun _ _ => rfl, trivial⟩) (each_of (acyc_from _ 0 (by kernel_rfl))) (AllStab.get _ ⟨stEq _, stEq _, stI _ _, stEq _, stEq _, stEq _, stEq _, stEq _, stEq _, stI _ _, stEq _, stEq _, stEq _, stEq _, trivial⟩)
    (fun _ h => nomatch h) (List.forall_mem_cons.2 ⟨scAny, List.forall_mem_cons.2 ⟨scAny, List.forall_mem_cons.2 ⟨scAny, List.forall_mem_cons.2 ⟨scAny, List.forall_mem_cons.2 ⟨scAny, List.forall_mem_cons.2 ⟨scAny, fun _ h => nomatch h⟩⟩⟩⟩⟩⟩) (fun _ h => nomatch h) bw5.size
    (List.forall_mem_cons.2 ⟨⟨x1a, by show w.heap.size ≤ w.heap.size; omega⟩, List.forall_mem_cons.2 ⟨⟨x1b, by show w.heap.size ≤ w.heap.size + 1; omega⟩, List.forall_mem_cons.2 ⟨⟨x2a, by show w.heap.size ≤ w1.heap.size; omega⟩, List.forall_mem_cons.2 ⟨⟨x2b, by show w.heap.size ≤ w1.heap.size + 1; omega⟩, List.forall_mem_cons.2 ⟨⟨x4a, by show w.heap.size ≤ w3.heap.size; omega⟩, List.forall_mem_cons.2 ⟨⟨x5a, by show w.heap.size ≤ w4.heap.size; omega⟩, fun _ h => nomatch h⟩⟩⟩⟩⟩⟩) (ownDist (by simp <;> omega))
    (each_of ⟨?_, ?_, ?_, ?_, ?_, ?_, ?_, ?_, ?_, ?_, ?_, ?_, ?_, ?_, trivial⟩) ?_
  · exact .inl ⟨by simp, by simp, fun xf wq hk hbl hd K hK => by
      have y : Blk wq w3.heap.size 46 #[.bool b3, .slice A3 n3 c3] := hbl _ (List.Mem.tail _ (List.Mem.tail _ (List.Mem.tail _ (List.Mem.tail _ (List.Mem.head _))))) (by simp [Region.binds])
      obtain ⟨hcl0, hcl1⟩ := y.c2
      (try dsimp only)
      go_simp
      exact hK.out (.agg #[.bool b3, .slice A3 n3 c3]) _ rfl (brefl _)⟩
  · exact .inl ⟨by simp, by simp, fun xf wq hk hbl hd K hK => by
      have y : Blk wq w3.heap.size 46 #[.bool b3, .slice A3 n3 c3] := hbl _ (List.Mem.tail _ (List.Mem.tail _ (List.Mem.tail _ (List.Mem.tail _ (List.Mem.head _))))) (by simp [Region.binds])
      obtain ⟨hcl0, hcl1⟩ := y.c2
      (try dsimp only)
      go_simp
      exact hK.out (.agg #[.bool b3, .slice A3 n3 c3]) _ rfl (brefl _)⟩
  · exact .inl ⟨by simp, by simp, fun xf wq hk hbl hd K hK => by
      have dq0 : xf 0 = .agg #[.bool b3, .slice A3 n3 c3] := hd ⟨0, .data⟩ (by simp) rfl
      have dq1 : xf 1 = .agg #[.bool b3, .slice A3 n3 c3] := hd ⟨1, .data⟩ (by simp) rfl
      (try dsimp only); (try simp only [dq0, dq1])
      go_simp
      go_at_call 106
      (with_reducible refine (i_mul _ b3 A3 n3 c3 (((isq (q.num).natAbs : Nat) : Int)) (k) ?_ b3 A3 n3 c3 (((isq (q.num).natAbs : Nat) : Int)) (k) ?_ ?_).mono ?_); (exact (h3.keep hk).iz); (exact (h3.keep hk).iz); (first | omega | decide | assumption); rintro e wr ⟨b7, A7, n7, c7, rfl, h7, hbr⟩
      have hz := hK.out _ _ ⟨b7, A7, n7, c7, rfl, h7⟩ hbr
      simp only [dq0, dq1] at hz
      exact hz⟩
  · exact .inl ⟨by simp, by simp, fun xf wq hk hbl hd K hK => by
      have y : Blk wq w1.heap.size 46 #[.bool b1, .slice A1 n1 c1] := hbl _ (List.Mem.tail _ (List.Mem.tail _ (List.Mem.head _))) (by simp [Region.binds])
      obtain ⟨hcl0, hcl1⟩ := y.c2
      (try dsimp only)
      go_simp
      exact hK.out (.agg #[.bool b1, .slice A1 n1 c1]) _ rfl (brefl _)⟩
  · exact .inl ⟨by simp, by simp, fun xf wq hk hbl hd K hK => by
      obtain ⟨b7, A7, n7, c7, dq2, h7⟩ : VI ((((isq (q.num).natAbs : Nat) : Int)) * (((isq (q.num).natAbs : Nat) : Int))) ((k) + (k)) (xf 2) wq := hd ⟨2, .data⟩ (by simp) rfl
      have dq3 : xf 3 = .agg #[.bool b1, .slice A1 n1 c1] := hd ⟨3, .data⟩ (by simp) rfl
      (try dsimp only); (try simp only [dq2, dq3])
      go_simp
      go_at_call 59
      (with_reducible refine (i_cmp_v2 _ b7 A7 n7 c7 ((((isq (q.num).natAbs : Nat) : Int)) * (((isq (q.num).natAbs : Nat) : Int))) ((k) + (k)) ?_ b1 A1 n1 c1 ((q).num) ((k)) ?_ (0) HC1.out ?_).mono ?_); (exact h7.iz); (exact (h1.keep hk).iz); (first | omega | assumption); rintro e wr ⟨rfl, hbr⟩
      have hz := hK.out (.int .i64 (0)) _ rfl hbr
      simp only [dq2, dq3] at hz
      exact hz⟩
  · exact .inl ⟨by simp, by simp, fun xf wq hk hbl hd K hK => by
      have dq4 : xf 4 = .int .i64 (0) := hd ⟨4, .data⟩ (by simp) rfl
      (try dsimp only); (try simp only [dq4])
      go_simp
      have hz := hK.out (.bool false) _ rfl (brefl _)
      simp only [dq4] at hz
      exact hz⟩
  · exact .inl ⟨by simp, by simp, fun xf wq hk hbl hd K hK => by
      have dq5 : xf 5 = .bool false := hd ⟨5, .data⟩ (by simp) rfl
      (try dsimp only); (try simp only [dq5])
      go_simp
      have hz := hK.out (.bool false) _ rfl (brefl _)
      simp only [dq5] at hz
      exact hz⟩
  · exact .inl ⟨by simp, by simp, fun xf wq hk hbl hd K hK => by
      have dq6 : xf 6 = .bool false := hd ⟨6, .guard⟩ (by simp) rfl
      have y : Blk wq w4.heap.size 46 #[.bool b4, .slice A4 n4 c4] := hbl _ (List.Mem.tail _ (List.Mem.tail _ (List.Mem.tail _ (List.Mem.tail _ (List.Mem.tail _ (List.Mem.head _)))))) (by simp [Region.binds])
      obtain ⟨hcl0, hcl1⟩ := y.c2
      (try dsimp only); (try simp only [dq6])
      go_simp
      have hz := hK.out (.agg #[.bool b4, .slice A4 n4 c4]) _ rfl (brefl _)
      simp only [dq6] at hz
      exact hz⟩
  · exact .inl ⟨by simp, by simp, fun xf wq hk hbl hd K hK => by
      have dq6 : xf 6 = .bool false := hd ⟨6, .guard⟩ (by simp) rfl
      have y : Blk wq w4.heap.size 46 #[.bool b4, .slice A4 n4 c4] := hbl _ (List.Mem.tail _ (List.Mem.tail _ (List.Mem.tail _ (List.Mem.tail _ (List.Mem.tail _ (List.Mem.head _)))))) (by simp [Region.binds])
      obtain ⟨hcl0, hcl1⟩ := y.c2
      (try dsimp only); (try simp only [dq6])
      go_simp
      have hz := hK.out (.agg #[.bool b4, .slice A4 n4 c4]) _ rfl (brefl _)
      simp only [dq6] at hz
      exact hz⟩
  · exact .inl ⟨by simp, by simp, fun xf wq hk hbl hd K hK => by
      have dq7 : xf 7 = .agg #[.bool b4, .slice A4 n4 c4] := hd ⟨7, .data⟩ (by simp) rfl
      have dq8 : xf 8 = .agg #[.bool b4, .slice A4 n4 c4] := hd ⟨8, .data⟩ (by simp) rfl
      have dq6 : xf 6 = .bool false := hd ⟨6, .guard⟩ (by simp) rfl
      (try dsimp only); (try simp only [dq7, dq8, dq6])
      go_simp
      go_at_call 106
      (with_reducible refine (i_mul _ b4 A4 n4 c4 (((isq ((q.den : Int)).natAbs : Nat) : Int)) (k) ?_ b4 A4 n4 c4 (((isq ((q.den : Int)).natAbs : Nat) : Int)) (k) ?_ ?_).mono ?_); (exact (h4.keep hk).iz); (exact (h4.keep hk).iz); (first | omega | decide | assumption); rintro e wr ⟨b9, A9, n9, c9, rfl, h9, hbr⟩
      have hz := hK.out _ _ ⟨b9, A9, n9, c9, rfl, h9⟩ hbr
      simp only [dq7, dq8, dq6] at hz
      exact hz⟩
  · exact .inl ⟨by simp, by simp, fun xf wq hk hbl hd K hK => by
      have dq6 : xf 6 = .bool false := hd ⟨6, .guard⟩ (by simp) rfl
      have y : Blk wq (w1.heap.size + 1) 46 #[.bool b'1, .slice A'1 n'1 c'1] := hbl _ (List.Mem.tail _ (List.Mem.tail _ (List.Mem.tail _ (List.Mem.head _)))) (by simp [Region.binds])
      obtain ⟨hcl0, hcl1⟩ := y.c2
      (try dsimp only); (try simp only [dq6])
      go_simp
      have hz := hK.out (.agg #[.bool b'1, .slice A'1 n'1 c'1]) _ rfl (brefl _)
      simp only [dq6] at hz
      exact hz⟩
  · exact .inl ⟨by simp, by simp, fun xf wq hk hbl hd K hK => by
      obtain ⟨b9, A9, n9, c9, dq9, h9⟩ : VI ((((isq ((q.den : Int)).natAbs : Nat) : Int)) * (((isq ((q.den : Int)).natAbs : Nat) : Int))) ((k) + (k)) (xf 9) wq := hd ⟨9, .data⟩ (by simp) rfl
      have dq10 : xf 10 = .agg #[.bool b'1, .slice A'1 n'1 c'1] := hd ⟨10, .data⟩ (by simp) rfl
      have dq6 : xf 6 = .bool false := hd ⟨6, .guard⟩ (by simp) rfl
      (try dsimp only); (try simp only [dq9, dq10, dq6])
      go_simp
      go_at_call 59
      (with_reducible refine (i_cmp_v2 _ b9 A9 n9 c9 ((((isq ((q.den : Int)).natAbs : Nat) : Int)) * (((isq ((q.den : Int)).natAbs : Nat) : Int))) ((k) + (k)) ?_ b'1 A'1 n'1 c'1 (((q).den : Int)) ((k)) ?_ (-1) HC2.out ?_).mono ?_); (exact h9.iz); (exact (h'1.keep hk).iz); (first | omega | assumption); rintro e wr ⟨rfl, hbr⟩
      have hz := hK.out (.int .i64 (-1)) _ rfl hbr
      simp only [dq9, dq10, dq6] at hz
      exact hz⟩
  · exact .inl ⟨by simp, by simp, fun xf wq hk hbl hd K hK => by
      have dq11 : xf 11 = .int .i64 (-1) := hd ⟨11, .data⟩ (by simp) rfl
      have dq6 : xf 6 = .bool false := hd ⟨6, .guard⟩ (by simp) rfl
      (try dsimp only); (try simp only [dq11, dq6])
      go_simp
      have hz := hK.out (.bool true) _ rfl (brefl _)
      simp only [dq11, dq6] at hz
      exact hz⟩
  · exact .inl ⟨by simp, by simp, fun xf wq hk hbl hd K hK => by
      have dq6 : xf 6 = .bool false := hd ⟨6, .data⟩ (by simp) rfl
      have dq12 : xf 12 = .bool true := hd ⟨12, .data⟩ (by simp) rfl
      (try dsimp only); (try simp only [dq6, dq12])
      go_simp
      have hz := hK.out (.bool true) _ rfl (brefl _)
      simp only [dq6, dq12] at hz
      exact hz⟩
  clear cx2aa cx2ab lx2aa lx2ab lx2ac lx2ad cx2ba cx2bb lx2ba lx2bb lx2bc lx2bd cx4aa cx4ab lx4aa lx4ab lx4ac lx4ad cx5aa cx5ab lx5aa lx5ab lx5ac lx5ad
  intro y6 w6 kq6 hbl6 lw6 how hrr hfl hds
  replace h := h.keep kq6
  replace h1 := h1.keep kq6
  replace h'1 := h'1.keep kq6
  replace h3 := h3.keep kq6
  replace h4 := h4.keep kq6
  obtain ⟨_, z6_0, ez, _⟩ := how _ (List.Mem.head _)
  obtain rfl := ez (by simp)
  dsimp only at z6_0
  obtain ⟨_, z6_1, ez, _⟩ := how _ (List.Mem.tail _ (List.Mem.head _))
  obtain rfl := ez (by simp)
  dsimp only at z6_1
  obtain ⟨_, z6_2, ez, _⟩ := how _ (List.Mem.tail _ (List.Mem.tail _ (List.Mem.head _)))
  obtain rfl := ez (by simp)
  dsimp only at z6_2
  obtain ⟨_, z6_3, ez, _⟩ := how _ (List.Mem.tail _ (List.Mem.tail _ (List.Mem.tail _ (List.Mem.head _))))
  obtain rfl := ez (by simp)
  dsimp only at z6_3
  obtain ⟨_, z6_4, ez, _⟩ := how _ (List.Mem.tail _ (List.Mem.tail _ (List.Mem.tail _ (List.Mem.tail _ (List.Mem.head _)))))
  obtain rfl := ez (by simp)
  dsimp only at z6_4
  obtain ⟨_, z6_5, ez, _⟩ := how _ (List.Mem.tail _ (List.Mem.tail _ (List.Mem.tail _ (List.Mem.tail _ (List.Mem.tail _ (List.Mem.head _))))))
  obtain rfl := ez (by simp)
  dsimp only at z6_5
  have ea13 : y6 13 = .bool true := hrr 13 (by simp)
  (try dsimp only)
  simp only [ea13]
  clear hrr hfl how hds ea13
  clear x1a x1b x2a x2b x4a x5a
  have bw6 := bw5.trans hbl6
  clear bw5
  obtain ⟨cz6_1_0, cz6_1_1, cz6_1_2⟩ := z6_1.c3
  obtain ⟨fz6_1_0, fz6_1_1, fz6_1_2⟩ := z6_1.f3
  obtain ⟨lz6_1_0, lz6_1_1, lz6_1_2, lz6_1_3⟩ := lts1 z6_1.lt
  go_wp2_with fail
  refine bodyPost_ret (v := .tuple #[.agg #[.bool false, .slice none 0 0, .slice none 0 0], .bool false]) (by simp [results, Tryz.results47, go_sem, *] <;> first | rfl | exact ⟨rfl, rfl⟩) rfl ?_
  exact ⟨_, _, _, _, _, _, _, rfl, QV.zero _ _, (((bw6.sc (w.heap.size + 1) 0 (by omega) (.bool false)).sc (w.heap.size + 1) 1 (by omega) (.slice none 0 0)).sc (w.heap.size + 1) 2 (by omega) (.slice none 0 0))⟩
theorem f_root_c0 (w : World) (b : Bool) (A : Option Addr) (n c : Nat) (D : Option Addr) (m e : Nat) (q : Rat) (k : Nat) (h : QZ w b A n c D m e q k) (h0 : 0 < k) (hk : k ≤ 1000000) (hx : q.num.sign = 0) (h1 : ¬ isq q.num.natAbs * isq q.num.natAbs = q.num.natAbs) :
    Calls Tryz.prog 47 #[.agg #[.bool b, .slice A n c, .slice D m e]] w (RetFe w (.bool false) (0) k) := by
  have hp : 0 ≤ q.num := by rcases Int.lt_trichotomy q.num 0 with e | e | e
                            · rw [Int.sign_eq_neg_one_of_neg e] at hx; exact absurd hx (by decide)
                            · omega
                            · omega
  have HX := Lib.hid hx
  have HE1 := Lib.hid (And.intro (rootE_pos hp) (rootZ_pos hp))
  have HE2 := Lib.hid (And.intro (rootE_pos (z := (q.den : Int)) (by omega)) (rootZ_pos (z := (q.den : Int)) (by omega)))
  have HC1 := Lib.hid (cmp_sq1 hp h1)
  clear hx hp h1
  go_enter Tryz.func47, Tryz.ntmps47
  go_wp2_with fail
  (with_reducible refine (f_parts _ b A n c D m e (q) (k) ?_ ?_ ?_).mono ?_); (exact (h.belw (((Below.refl _ _).alloc (Nat.le_refl _) _).alloc (by simp) _))); (first | omega | decide | assumption); (first | omega | decide | assumption); rintro e w1 ⟨b1, A1, n1, c1, b'1, A'1, n'1, c'1, rfl, h1, h'1, hb1⟩
  have q1 := (((Below.refl _ _).alloc (Nat.le_refl _) _).alloc (by simp) _).trans (hb1.mono (by simp <;> omega))
  replace h := h.belw q1
  have x1a : Blk w1 w.heap.size 24 #[.bool b, .slice A n c, .slice D m e] := ((blkAt _ _ _ (by simp)).alloc _).below hb1 (by simp <;> omega)
  have x1b := (blkAt _ _ _ (g := w.heap.size + 1) (by simp)).below hb1 (by simp)
  have bw1 := (brefl w).trans (q1.mono (brefl w).size)
  have lw1 : w.heap.size + 2 ≤ w1.heap.size := by have := hb1.size; simp at this; omega
  clear q1
  go_wp2_with fail
  (with_reducible refine (i_sign_e _ b1 A1 n1 c1 ((q).num) ((k)) ?_ 0 ?_ ?_).mono ?_); (exact (h1.belw (((Below.refl _ _).alloc (Nat.le_refl _) _).alloc (by simp) _)).iz); (exact HX.out); (omega); rintro e w2 ⟨rfl, hb2⟩
  have q2 := (((Below.refl _ _).alloc (Nat.le_refl _) _).alloc (by simp) _).trans (hb2.mono (by simp <;> omega))
  replace h := h.belw q2
  replace h1 := h1.belw q2
  replace h'1 := h'1.belw q2
  replace x1a := x1a.b q2
  replace x1b := x1b.b q2
  have x2a : Blk w2 w1.heap.size 46 #[.bool b1, .slice A1 n1 c1] := ((blkAt _ _ _ (by simp)).alloc _).below hb2 (by simp <;> omega)
  have x2b := (blkAt _ _ _ (g := w1.heap.size + 1) (by simp)).below hb2 (by simp)
  have bw2 := bw1.trans (q2.mono bw1.size)
  have lw2 : w1.heap.size + 2 ≤ w2.heap.size := by have := hb2.size; simp at this; omega
  clear q2 bw1
  obtain ⟨cx2aa, cx2ab⟩ := x2a.c2
  obtain ⟨lx2aa, lx2ab, lx2ac, lx2ad⟩ := lts0 x2a.lt
  go_wp2_with fail
  (with_reducible refine (i_root _ b1 A1 n1 c1 ((q).num) ((k)) ?_ (by omega) (.nilIface) HE1.out.1 ((isq (q.num).natAbs : Nat) : Int) HE1.out.2).mono ?_); (exact h1.iz); rintro e w3 ⟨b3, A3, n3, c3, rfl, h3, q3⟩
  clear cx2aa cx2ab lx2aa lx2ab lx2ac lx2ad
  replace h := h.belw q3
  replace h1 := h1.belw q3
  replace h'1 := h'1.belw q3
  replace x1a := x1a.b q3
  replace x1b := x1b.b q3
  replace x2a := x2a.b q3
  replace x2b := x2b.b q3
  have bw3 := bw2.trans (q3.mono bw2.size)
  have lw3 := q3.size
  clear q3 bw2
  obtain ⟨cx2ba, cx2bb⟩ := x2b.c2
  obtain ⟨lx2ba, lx2bb, lx2bc, lx2bd⟩ := lts1 x2b.lt
  go_wp2_with fail
  (with_reducible refine (i_root _ b'1 A'1 n'1 c'1 (((q).den : Int)) ((k)) ?_ (by omega) (.nilIface) HE2.out.1 ((isq ((q.den : Int)).natAbs : Nat) : Int) HE2.out.2).mono ?_); (exact (h'1.belw ((Below.refl _ _).alloc (Nat.le_refl _) _)).iz); rintro e w4 ⟨b4, A4, n4, c4, rfl, h4, hb4⟩
  clear cx2ba cx2bb lx2ba lx2bb lx2bc lx2bd
  have q4 := ((Below.refl _ _).alloc (Nat.le_refl _) _).trans (hb4.mono (by simp))
  replace h := h.belw q4
  replace h1 := h1.belw q4
  replace h'1 := h'1.belw q4
  replace h3 := h3.belw q4
  replace x1a := x1a.b q4
  replace x1b := x1b.b q4
  replace x2a := x2a.b q4
  replace x2b := x2b.b q4
  have x4a : Blk w4 w3.heap.size 46 #[.bool b3, .slice A3 n3 c3] := (blkAt _ _ _ (by simp)).below hb4 (by simp)
  have bw4 := bw3.trans (q4.mono bw3.size)
  have lw4 : w3.heap.size + 1 ≤ w4.heap.size := by have := hb4.size; simp at this; omega
  clear q4 bw3
  go_wp2_with fail
  have p5 := ((Kp.refl w4).alloc (.cells #[.bool b4, .slice A4 n4 c4] 46))
  have bw5 := (bw4.alloc (by first | omega | (simp <;> omega)) (.cells #[.bool b4, .slice A4 n4 c4] 46))
  have x5a : Blk (w4.alloc (.cells #[.bool b4, .slice A4 n4 c4] 46)) w4.heap.size 46 #[.bool b4, .slice A4 n4 c4] := (blkAt _ _ _ (by simp))
  replace x1a := (x1a.alloc (.cells #[.bool b4, .slice A4 n4 c4] 46))
  replace x1b := (x1b.alloc (.cells #[.bool b4, .slice A4 n4 c4] 46))
  replace x2a := (x2a.alloc (.cells #[.bool b4, .slice A4 n4 c4] 46))
  replace x2b := (x2b.alloc (.cells #[.bool b4, .slice A4 n4 c4] 46))
  replace x4a := (x4a.alloc (.cells #[.bool b4, .slice A4 n4 c4] 46))
  have lw5 : w4.heap.size + 1 ≤ (w4.alloc (.cells #[.bool b4, .slice A4 n4 c4] 46)).heap.size := by simp
  generalize hE5 : (w4.alloc (.cells #[.bool b4, .slice A4 n4 c4] 46)) = w5 at p5 bw5 lw5 x5a x1a x1b x2a x2b x4a ⊢
  clear hE5
  replace h := h.keep p5
  replace h1 := h1.keep p5
  replace h'1 := h'1.keep p5
  replace h3 := h3.keep p5
  replace h4 := h4.keep p5
  clear bw4
  obtain ⟨cx2aa, cx2ab⟩ := x2a.c2
  obtain ⟨lx2aa, lx2ab, lx2ac, lx2ad⟩ := lts0 x2a.lt
  obtain ⟨cx4aa, cx4ab⟩ := x4a.c2
  obtain ⟨lx4aa, lx4ab, lx4ac, lx4ad⟩ := lts0 x4a.lt
  refine wp_region_lin (B := w.heap.size) (fr := fun xf => ⟨List.toArray (.agg #[.bool b, .slice A n c, .slice D m e] :: .pointer (some ⟨w.heap.size, 0, none⟩) :: .pointer (some ⟨w.heap.size + 1, 0, none⟩) :: .bool false :: .pointer (some ⟨w1.heap.size, 0, none⟩) :: .pointer (some ⟨w1.heap.size + 1, 0, none⟩) :: .pointer (some ⟨w3.heap.size, 0, none⟩) :: .nilIface :: .pointer (some ⟨w4.heap.size, 0, none⟩) :: .nilIface :: .tuple #[.agg #[.bool b1, .slice A1 n1 c1], .agg #[.bool b'1, .slice A'1 n'1 c'1]] :: .agg #[.bool b, .slice A n c, .slice D m e] :: .tuple #[.agg #[.bool b1, .slice A1 n1 c1], .agg #[.bool b'1, .slice A'1 n'1 c'1]] :: .agg #[.bool b1, .slice A1 n1 c1] :: .agg #[.bool b'1, .slice A'1 n'1 c'1] :: .agg #[.bool b1, .slice A1 n1 c1] :: .int .i64 0 :: .bool false :: undef :: .tuple #[.agg #[.bool b3, .slice A3 n3 c3], .nilIface] :: .agg #[.bool b1, .slice A1 n1 c1] :: .tuple #[.agg #[.bool b3, .slice A3 n3 c3], .nilIface] :: .agg #[.bool b3, .slice A3 n3 c3] :: .nilIface :: .tuple #[.agg #[.bool b4, .slice A4 n4 c4], .nilIface] :: .agg #[.bool b'1, .slice A'1 n'1 c'1] :: .tuple #[.agg #[.bool b4, .slice A4 n4 c4], .nilIface] :: .agg #[.bool b4, .slice A4 n4 c4] :: .nilIface :: xf 0 :: xf 1 :: xf 2 :: xf 3 :: xf 4 :: xf 5 :: xf 6 :: xf 7 :: xf 8 :: xf 9 :: xf 10 :: xf 11 :: xf 12 :: xf 13 :: undef :: undef :: undef :: undef :: []), []⟩) (R := fun i => List.getD ((PEq (.agg #[.bool b3, .slice A3 n3 c3])) :: (PEq (.agg #[.bool b3, .slice A3 n3 c3])) :: (VI ((((isq (q.num).natAbs : Nat) : Int)) * (((isq (q.num).natAbs : Nat) : Int))) ((k) + (k))) :: (PEq (.agg #[.bool b1, .slice A1 n1 c1])) :: (PEq (.int .i64 (-1))) :: (PEq (.bool true)) :: (PEq (.bool true)) :: PAny :: PAny :: PAny :: PAny :: PAny :: PAny :: (PEq (.bool true)) :: []) i (fun _ _ => True)) (es := []) (ow := [⟨w.heap.size, 14, 0, 24, #[.bool b, .slice A n c, .slice D m e], CAny⟩, ⟨w.heap.size + 1, 14, 0, 24, #[.bool false, .slice none 0 0, .slice none 0 0], CAny⟩, ⟨w1.heap.size, 14, 0, 46, #[.bool b1, .slice A1 n1 c1], CAny⟩, ⟨w1.heap.size + 1, 14, 0, 46, #[.bool b'1, .slice A'1 n'1 c'1], CAny⟩, ⟨w3.heap.size, 14, 0, 46, #[.bool b3, .slice A3 n3 c3], CAny⟩, ⟨w4.heap.size, 14, 0, 46, #[.bool b4, .slice A4 n4 c4], CAny⟩]) (x0 := (fun _ => undef)) (by kernel_rfl)
    (each_of ⟨fun _ _ => rfl, fun _ _ => rfl, fun _ _ => rfl, fun _ _ => rfl, fun _ _ => rfl, fun _ _ => rfl, fun _ _ => rfl, fun _ _ => rfl, fun _ _ => rfl, fun _ _ => rfl, fun _ _ => rfl, fun _ _ => rfl, fun _ _ => rfl, fun _ _ => rfl, trivial⟩) (each_of (acyc_from _ 0 (by kernel_rfl))) (AllStab.get _ ⟨stEq _, stEq _, stI _ _, stEq _, stEq _, stEq _, stEq _, stAny, stAny, stAny, stAny, stAny, stAny, stEq _, trivial⟩)
    (fun _ h => nomatch h) (List.forall_mem_cons.2 ⟨scAny, List.forall_mem_cons.2 ⟨scAny, List.forall_mem_cons.2 ⟨scAny, List.forall_mem_cons.2 ⟨scAny, List.forall_mem_cons.2 ⟨scAny, List.forall_mem_cons.2 ⟨scAny, fun _ h => nomatch h⟩⟩⟩⟩⟩⟩) (fun _ h => nomatch h) bw5.size
    (List.forall_mem_cons.2 ⟨⟨x1a, by show w.heap.size ≤ w.heap.size; omega⟩, List.forall_mem_cons.2 ⟨⟨x1b, by show w.heap.size ≤ w.heap.size + 1; omega⟩, List.forall_mem_cons.2 ⟨⟨x2a, by show w.heap.size ≤ w1.heap.size; omega⟩, List.forall_mem_cons.2 ⟨⟨x2b, by show w.heap.size ≤ w1.heap.size + 1; omega⟩, List.forall_mem_cons.2 ⟨⟨x4a, by show w.heap.size ≤ w3.heap.size; omega⟩, List.forall_mem_cons.2 ⟨⟨x5a, by show w.heap.size ≤ w4.heap.size; omega⟩, fun _ h => nomatch h⟩⟩⟩⟩⟩⟩) (ownDist (by simp <;> omega))
    (each_of ⟨?_, ?_, ?_, ?_, ?_, ?_, ?_, ?_, ?_, ?_, ?_, ?_, ?_, ?_, trivial⟩) ?_
  · exact .inl ⟨by simp, by simp, fun xf wq hk hbl hd K hK => by
      have y : Blk wq w3.heap.size 46 #[.bool b3, .slice A3 n3 c3] := hbl _ (List.Mem.tail _ (List.Mem.tail _ (List.Mem.tail _ (List.Mem.tail _ (List.Mem.head _))))) (by simp [Region.binds])
      obtain ⟨hcl0, hcl1⟩ := y.c2
      (try dsimp only)
      go_simp
      exact hK.out (.agg #[.bool b3, .slice A3 n3 c3]) _ rfl (brefl _)⟩
  · exact .inl ⟨by simp, by simp, fun xf wq hk hbl hd K hK => by
      have y : Blk wq w3.heap.size 46 #[.bool b3, .slice A3 n3 c3] := hbl _ (List.Mem.tail _ (List.Mem.tail _ (List.Mem.tail _ (List.Mem.tail _ (List.Mem.head _))))) (by simp [Region.binds])
      obtain ⟨hcl0, hcl1⟩ := y.c2
      (try dsimp only)
      go_simp
      exact hK.out (.agg #[.bool b3, .slice A3 n3 c3]) _ rfl (brefl _)⟩
  · exact .inl ⟨by simp, by simp, fun xf wq hk hbl hd K hK => by
      have dq0 : xf 0 = .agg #[.bool b3, .slice A3 n3 c3] := hd ⟨0, .data⟩ (by simp) rfl
      have dq1 : xf 1 = .agg #[.bool b3, .slice A3 n3 c3] := hd ⟨1, .data⟩ (by simp) rfl
      (try dsimp only); (try simp only [dq0, dq1])
      go_simp
      go_at_call 106
      (with_reducible refine (i_mul _ b3 A3 n3 c3 (((isq (q.num).natAbs : Nat) : Int)) (k) ?_ b3 A3 n3 c3 (((isq (q.num).natAbs : Nat) : Int)) (k) ?_ ?_).mono ?_); (exact (h3.keep hk).iz); (exact (h3.keep hk).iz); (first | omega | decide | assumption); rintro e wr ⟨b7, A7, n7, c7, rfl, h7, hbr⟩
      have hz := hK.out _ _ ⟨b7, A7, n7, c7, rfl, h7⟩ hbr
      simp only [dq0, dq1] at hz
      exact hz⟩
  · exact .inl ⟨by simp, by simp, fun xf wq hk hbl hd K hK => by
      have y : Blk wq w1.heap.size 46 #[.bool b1, .slice A1 n1 c1] := hbl _ (List.Mem.tail _ (List.Mem.tail _ (List.Mem.head _))) (by simp [Region.binds])
      obtain ⟨hcl0, hcl1⟩ := y.c2
      (try dsimp only)
      go_simp
      exact hK.out (.agg #[.bool b1, .slice A1 n1 c1]) _ rfl (brefl _)⟩
  · exact .inl ⟨by simp, by simp, fun xf wq hk hbl hd K hK => by
      obtain ⟨b7, A7, n7, c7, dq2, h7⟩ : VI ((((isq (q.num).natAbs : Nat) : Int)) * (((isq (q.num).natAbs : Nat) : Int))) ((k) + (k)) (xf 2) wq := hd ⟨2, .data⟩ (by simp) rfl
      have dq3 : xf 3 = .agg #[.bool b1, .slice A1 n1 c1] := hd ⟨3, .data⟩ (by simp) rfl
      (try dsimp only); (try simp only [dq2, dq3])
      go_simp
      go_at_call 59
      (with_reducible refine (i_cmp_v2 _ b7 A7 n7 c7 ((((isq (q.num).natAbs : Nat) : Int)) * (((isq (q.num).natAbs : Nat) : Int))) ((k) + (k)) ?_ b1 A1 n1 c1 ((q).num) ((k)) ?_ (-1) HC1.out ?_).mono ?_); (exact h7.iz); (exact (h1.keep hk).iz); (first | omega | assumption); rintro e wr ⟨rfl, hbr⟩
      have hz := hK.out (.int .i64 (-1)) _ rfl hbr
      simp only [dq2, dq3] at hz
      exact hz⟩
  · exact .inl ⟨by simp, by simp, fun xf wq hk hbl hd K hK => by
      have dq4 : xf 4 = .int .i64 (-1) := hd ⟨4, .data⟩ (by simp) rfl
      (try dsimp only); (try simp only [dq4])
      go_simp
      have hz := hK.out (.bool true) _ rfl (brefl _)
      simp only [dq4] at hz
      exact hz⟩
  · exact .inl ⟨by simp, by simp, fun xf wq hk hbl hd K hK => by
      have dq5 : xf 5 = .bool true := hd ⟨5, .data⟩ (by simp) rfl
      (try dsimp only); (try simp only [dq5])
      go_simp
      have hz := hK.out (.bool true) _ rfl (brefl _)
      simp only [dq5] at hz
      exact hz⟩
  · exact .inl ⟨by simp, by simp, fun xf wq hk hbl hd K hK => by
      have dq6 : xf 6 = .bool true := hd ⟨6, .guard⟩ (by simp) rfl
      (try dsimp only); (try simp only [dq6])
      go_simp
      have hz := hK.out undef _ True.intro (brefl _)
      simp only [dq6] at hz
      exact hz⟩
  · exact .inl ⟨by simp, by simp, fun xf wq hk hbl hd K hK => by
      have dq6 : xf 6 = .bool true := hd ⟨6, .guard⟩ (by simp) rfl
      (try dsimp only); (try simp only [dq6])
      go_simp
      have hz := hK.out undef _ True.intro (brefl _)
      simp only [dq6] at hz
      exact hz⟩
  · exact .inl ⟨by simp, by simp, fun xf wq hk hbl hd K hK => by
      have dq6 : xf 6 = .bool true := hd ⟨6, .guard⟩ (by simp) rfl
      (try dsimp only); (try simp only [dq6])
      go_simp
      have hz := hK.out undef _ True.intro (brefl _)
      simp only [dq6] at hz
      exact hz⟩
  · exact .inl ⟨by simp, by simp, fun xf wq hk hbl hd K hK => by
      have dq6 : xf 6 = .bool true := hd ⟨6, .guard⟩ (by simp) rfl
      (try dsimp only); (try simp only [dq6])
      go_simp
      have hz := hK.out undef _ True.intro (brefl _)
      simp only [dq6] at hz
      exact hz⟩
  · exact .inl ⟨by simp, by simp, fun xf wq hk hbl hd K hK => by
      have dq6 : xf 6 = .bool true := hd ⟨6, .guard⟩ (by simp) rfl
      (try dsimp only); (try simp only [dq6])
      go_simp
      have hz := hK.out undef _ True.intro (brefl _)
      simp only [dq6] at hz
      exact hz⟩
  · exact .inl ⟨by simp, by simp, fun xf wq hk hbl hd K hK => by
      have dq6 : xf 6 = .bool true := hd ⟨6, .guard⟩ (by simp) rfl
      (try dsimp only); (try simp only [dq6])
      go_simp
      have hz := hK.out undef _ True.intro (brefl _)
      simp only [dq6] at hz
      exact hz⟩
  · exact .inl ⟨by simp, by simp, fun xf wq hk hbl hd K hK => by
      have dq6 : xf 6 = .bool true := hd ⟨6, .data⟩ (by simp) rfl
      (try dsimp only); (try simp only [dq6])
      go_simp
      have hz := hK.out (.bool true) _ rfl (brefl _)
      simp only [dq6] at hz
      exact hz⟩
  clear cx2aa cx2ab lx2aa lx2ab lx2ac lx2ad cx4aa cx4ab lx4aa lx4ab lx4ac lx4ad
  intro y6 w6 kq6 hbl6 lw6 how hrr hfl hds
  replace h := h.keep kq6
  replace h1 := h1.keep kq6
  replace h'1 := h'1.keep kq6
  replace h3 := h3.keep kq6
  replace h4 := h4.keep kq6
  obtain ⟨_, z6_0, ez, _⟩ := how _ (List.Mem.head _)
  obtain rfl := ez (by simp)
  dsimp only at z6_0
  obtain ⟨_, z6_1, ez, _⟩ := how _ (List.Mem.tail _ (List.Mem.head _))
  obtain rfl := ez (by simp)
  dsimp only at z6_1
  obtain ⟨_, z6_2, ez, _⟩ := how _ (List.Mem.tail _ (List.Mem.tail _ (List.Mem.head _)))
  obtain rfl := ez (by simp)
  dsimp only at z6_2
  obtain ⟨_, z6_3, ez, _⟩ := how _ (List.Mem.tail _ (List.Mem.tail _ (List.Mem.tail _ (List.Mem.head _))))
  obtain rfl := ez (by simp)
  dsimp only at z6_3
  obtain ⟨_, z6_4, ez, _⟩ := how _ (List.Mem.tail _ (List.Mem.tail _ (List.Mem.tail _ (List.Mem.tail _ (List.Mem.head _)))))
  obtain rfl := ez (by simp)
  dsimp only at z6_4
  obtain ⟨_, z6_5, ez, _⟩ := how _ (List.Mem.tail _ (List.Mem.tail _ (List.Mem.tail _ (List.Mem.tail _ (List.Mem.tail _ (List.Mem.head _))))))
  obtain rfl := ez (by simp)
  dsimp only at z6_5
  have ea13 : y6 13 = .bool true := hrr 13 (by simp)
  (try dsimp only)
  simp only [ea13]
  clear hrr hfl how hds ea13
  clear x1a x1b x2a x2b x4a x5a
  have bw6 := bw5.trans hbl6
  clear bw5
  obtain ⟨cz6_1_0, cz6_1_1, cz6_1_2⟩ := z6_1.c3
  obtain ⟨fz6_1_0, fz6_1_1, fz6_1_2⟩ := z6_1.f3
  obtain ⟨lz6_1_0, lz6_1_1, lz6_1_2, lz6_1_3⟩ := lts1 z6_1.lt
  go_wp2_with fail
  refine bodyPost_ret (v := .tuple #[.agg #[.bool false, .slice none 0 0, .slice none 0 0], .bool false]) (by simp [results, Tryz.results47, go_sem, *] <;> first | rfl | exact ⟨rfl, rfl⟩) rfl ?_
  exact ⟨_, _, _, _, _, _, _, rfl, QV.zero _ _, (((bw6.sc (w.heap.size + 1) 0 (by omega) (.bool false)).sc (w.heap.size + 1) 1 (by omega) (.slice none 0 0)).sc (w.heap.size + 1) 2 (by omega) (.slice none 0 0))⟩
theorem f_root_a1 (w : World) (b : Bool) (A : Option Addr) (n c : Nat) (D : Option Addr) (m e : Nat) (q : Rat) (k : Nat) (h : QZ w b A n c D m e q k) (h0 : 0 < k) (hk : k ≤ 1000000) (hx : q.num.sign = 1) (h1 : isq q.num.natAbs * isq q.num.natAbs = q.num.natAbs) (h2 : isq q.den * isq q.den = q.den) :
    Calls Tryz.prog 47 #[.agg #[.bool b, .slice A n c, .slice D m e]] w (RetFe w (.bool true) (Rat.divInt ((isq q.num.natAbs : Nat) : Int) ((isq q.den : Nat) : Int)) k) := by
  have hp : 0 ≤ q.num := by rcases Int.lt_trichotomy q.num 0 with e | e | e
                            · rw [Int.sign_eq_neg_one_of_neg e] at hx; exact absurd hx (by decide)
                            · omega
                            · omega
  have HX := Lib.hid hx
  have HE1 := Lib.hid (And.intro (rootE_pos hp) (rootZ_pos hp))
  have HE2 := Lib.hid (And.intro (rootE_pos (z := (q.den : Int)) (by omega)) (rootZ_pos (z := (q.den : Int)) (by omega)))
  have HC1 := Lib.hid (cmp_sq0 hp h1)
  have HC2 := Lib.hid (cmp_sq0 (z := (q.den : Int)) (by omega) h2)
  have HD := Lib.hid (isq_ne (q.den_nz) h2)
  have hs := h.sz h0
  have HS := Lib.hid (Sz_divInt (isq_lt hs.1) (isq_lt (z := (q.den : Int)) (by simpa using hs.2)) h0)
  clear hs
  clear hx hp h1 h2
  go_enter Tryz.func47, Tryz.ntmps47
  go_wp2_with fail
  (with_reducible refine (f_parts _ b A n c D m e (q) (k) ?_ ?_ ?_).mono ?_); (exact (h.belw (((Below.refl _ _).alloc (Nat.le_refl _) _).alloc (by simp) _))); (first | omega | decide | assumption); (first | omega | decide | assumption); rintro e w1 ⟨b1, A1, n1, c1, b'1, A'1, n'1, c'1, rfl, h1, h'1, hb1⟩
  have q1 := (((Below.refl _ _).alloc (Nat.le_refl _) _).alloc (by simp) _).trans (hb1.mono (by simp <;> omega))
  replace h := h.belw q1
  have x1a : Blk w1 w.heap.size 24 #[.bool b, .slice A n c, .slice D m e] := ((blkAt _ _ _ (by simp)).alloc _).below hb1 (by simp <;> omega)
  have x1b := (blkAt _ _ _ (g := w.heap.size + 1) (by simp)).below hb1 (by simp)
  have bw1 := (brefl w).trans (q1.mono (brefl w).size)
  have lw1 : w.heap.size + 2 ≤ w1.heap.size := by have := hb1.size; simp at this; omega
  clear q1
  go_wp2_with fail
  (with_reducible refine (i_sign_e _ b1 A1 n1 c1 ((q).num) ((k)) ?_ 1 ?_ ?_).mono ?_); (exact (h1.belw (((Below.refl _ _).alloc (Nat.le_refl _) _).alloc (by simp) _)).iz); (exact HX.out); (omega); rintro e w2 ⟨rfl, hb2⟩
  have q2 := (((Below.refl _ _).alloc (Nat.le_refl _) _).alloc (by simp) _).trans (hb2.mono (by simp <;> omega))
  replace h := h.belw q2
  replace h1 := h1.belw q2
  replace h'1 := h'1.belw q2
  replace x1a := x1a.b q2
  replace x1b := x1b.b q2
  have x2a : Blk w2 w1.heap.size 46 #[.bool b1, .slice A1 n1 c1] := ((blkAt _ _ _ (by simp)).alloc _).below hb2 (by simp <;> omega)
  have x2b := (blkAt _ _ _ (g := w1.heap.size + 1) (by simp)).below hb2 (by simp)
  have bw2 := bw1.trans (q2.mono bw1.size)
  have lw2 : w1.heap.size + 2 ≤ w2.heap.size := by have := hb2.size; simp at this; omega
  clear q2 bw1
  obtain ⟨cx2aa, cx2ab⟩ := x2a.c2
  obtain ⟨lx2aa, lx2ab, lx2ac, lx2ad⟩ := lts0 x2a.lt
  go_wp2_with fail
  (with_reducible refine (i_root _ b1 A1 n1 c1 ((q).num) ((k)) ?_ (by omega) (.nilIface) HE1.out.1 ((isq (q.num).natAbs : Nat) : Int) HE1.out.2).mono ?_); (exact h1.iz); rintro e w3 ⟨b3, A3, n3, c3, rfl, h3, q3⟩
  clear cx2aa cx2ab lx2aa lx2ab lx2ac lx2ad
  replace h := h.belw q3
  replace h1 := h1.belw q3
  replace h'1 := h'1.belw q3
  replace x1a := x1a.b q3
  replace x1b := x1b.b q3
  replace x2a := x2a.b q3
  replace x2b := x2b.b q3
  have bw3 := bw2.trans (q3.mono bw2.size)
  have lw3 := q3.size
  clear q3 bw2
  obtain ⟨cx2ba, cx2bb⟩ := x2b.c2
  obtain ⟨lx2ba, lx2bb, lx2bc, lx2bd⟩ := lts1 x2b.lt
  go_wp2_with fail
  (with_reducible refine (i_root _ b'1 A'1 n'1 c'1 (((q).den : Int)) ((k)) ?_ (by omega) (.nilIface) HE2.out.1 ((isq ((q.den : Int)).natAbs : Nat) : Int) HE2.out.2).mono ?_); (exact (h'1.belw ((Below.refl _ _).alloc (Nat.le_refl _) _)).iz); rintro e w4 ⟨b4, A4, n4, c4, rfl, h4, hb4⟩
  clear cx2ba cx2bb lx2ba lx2bb lx2bc lx2bd
  have q4 := ((Below.refl _ _).alloc (Nat.le_refl _) _).trans (hb4.mono (by simp))
  replace h := h.belw q4
  replace h1 := h1.belw q4
  replace h'1 := h'1.belw q4
  replace h3 := h3.belw q4
  replace x1a := x1a.b q4
  replace x1b := x1b.b q4
  replace x2a := x2a.b q4
  replace x2b := x2b.b q4
  have x4a : Blk w4 w3.heap.size 46 #[.bool b3, .slice A3 n3 c3] := (blkAt _ _ _ (by simp)).below hb4 (by simp)
  have bw4 := bw3.trans (q4.mono bw3.size)
  have lw4 : w3.heap.size + 1 ≤ w4.heap.size := by have := hb4.size; simp at this; omega
  clear q4 bw3
  go_wp2_with fail
  have p5 := ((Kp.refl w4).alloc (.cells #[.bool b4, .slice A4 n4 c4] 46))
  have bw5 := (bw4.alloc (by first | omega | (simp <;> omega)) (.cells #[.bool b4, .slice A4 n4 c4] 46))
  have x5a : Blk (w4.alloc (.cells #[.bool b4, .slice A4 n4 c4] 46)) w4.heap.size 46 #[.bool b4, .slice A4 n4 c4] := (blkAt _ _ _ (by simp))
  replace x1a := (x1a.alloc (.cells #[.bool b4, .slice A4 n4 c4] 46))
  replace x1b := (x1b.alloc (.cells #[.bool b4, .slice A4 n4 c4] 46))
  replace x2a := (x2a.alloc (.cells #[.bool b4, .slice A4 n4 c4] 46))
  replace x2b := (x2b.alloc (.cells #[.bool b4, .slice A4 n4 c4] 46))
  replace x4a := (x4a.alloc (.cells #[.bool b4, .slice A4 n4 c4] 46))
  have lw5 : w4.heap.size + 1 ≤ (w4.alloc (.cells #[.bool b4, .slice A4 n4 c4] 46)).heap.size := by simp
  generalize hE5 : (w4.alloc (.cells #[.bool b4, .slice A4 n4 c4] 46)) = w5 at p5 bw5 lw5 x5a x1a x1b x2a x2b x4a ⊢
  clear hE5
  replace h := h.keep p5
  replace h1 := h1.keep p5
  replace h'1 := h'1.keep p5
  replace h3 := h3.keep p5
  replace h4 := h4.keep p5
  clear bw4
  obtain ⟨cx2aa, cx2ab⟩ := x2a.c2
  obtain ⟨lx2aa, lx2ab, lx2ac, lx2ad⟩ := lts0 x2a.lt
  obtain ⟨cx2ba, cx2bb⟩ := x2b.c2
  obtain ⟨lx2ba, lx2bb, lx2bc, lx2bd⟩ := lts1 x2b.lt
  obtain ⟨cx4aa, cx4ab⟩ := x4a.c2
  obtain ⟨lx4aa, lx4ab, lx4ac, lx4ad⟩ := lts0 x4a.lt
  obtain ⟨cx5aa, cx5ab⟩ := x5a.c2
  obtain ⟨lx5aa, lx5ab, lx5ac, lx5ad⟩ := lts0 x5a.lt
  refine wp_region_lin (B := w.heap.size) (fr := fun xf => ⟨List.toArray (.agg #[.bool b, .slice A n c, .slice D m e] :: .pointer (some ⟨w.heap.size, 0, none⟩) :: .pointer (some ⟨w.heap.size + 1, 0, none⟩) :: .bool false :: .pointer (some ⟨w1.heap.size, 0, none⟩) :: .pointer (some ⟨w1.heap.size + 1, 0, none⟩) :: .pointer (some ⟨w3.heap.size, 0, none⟩) :: .nilIface :: .pointer (some ⟨w4.heap.size, 0, none⟩) :: .nilIface :: .tuple #[.agg #[.bool b1, .slice A1 n1 c1], .agg #[.bool b'1, .slice A'1 n'1 c'1]] :: .agg #[.bool b, .slice A n c, .slice D m e] :: .tuple #[.agg #[.bool b1, .slice A1 n1 c1], .agg #[.bool b'1, .slice A'1 n'1 c'1]] :: .agg #[.bool b1, .slice A1 n1 c1] :: .agg #[.bool b'1, .slice A'1 n'1 c'1] :: .agg #[.bool b1, .slice A1 n1 c1] :: .int .i64 1 :: .bool false :: undef :: .tuple #[.agg #[.bool b3, .slice A3 n3 c3], .nilIface] :: .agg #[.bool b1, .slice A1 n1 c1] :: .tuple #[.agg #[.bool b3, .slice A3 n3 c3], .nilIface] :: .agg #[.bool b3, .slice A3 n3 c3] :: .nilIface :: .tuple #[.agg #[.bool b4, .slice A4 n4 c4], .nilIface] :: .agg #[.bool b'1, .slice A'1 n'1 c'1] :: .tuple #[.agg #[.bool b4, .slice A4 n4 c4], .nilIface] :: .agg #[.bool b4, .slice A4 n4 c4] :: .nilIface :: xf 0 :: xf 1 :: xf 2 :: xf 3 :: xf 4 :: xf 5 :: xf 6 :: xf 7 :: xf 8 :: xf 9 :: xf 10 :: xf 11 :: xf 12 :: xf 13 :: undef :: undef :: undef :: undef :: []), []⟩) (R := fun i => List.getD ((PEq (.agg #[.bool b3, .slice A3 n3 c3])) :: (PEq (.agg #[.bool b3, .slice A3 n3 c3])) :: (VI ((((isq (q.num).natAbs : Nat) : Int)) * (((isq (q.num).natAbs : Nat) : Int))) ((k) + (k))) :: (PEq (.agg #[.bool b1, .slice A1 n1 c1])) :: (PEq (.int .i64 (0))) :: (PEq (.bool false)) :: (PEq (.bool false)) :: (PEq (.agg #[.bool b4, .slice A4 n4 c4])) :: (PEq (.agg #[.bool b4, .slice A4 n4 c4])) :: (VI ((((isq ((q.den : Int)).natAbs : Nat) : Int)) * (((isq ((q.den : Int)).natAbs : Nat) : Int))) ((k) + (k))) :: (PEq (.agg #[.bool b'1, .slice A'1 n'1 c'1])) :: (PEq (.int .i64 (0))) :: (PEq (.bool false)) :: (PEq (.bool false)) :: []) i (fun _ _ => True)) (es := []) (ow := [⟨w.heap.size, 14, 0, 24, #[.bool b, .slice A n c, .slice D m e], CAny⟩, ⟨w.heap.size + 1, 14, 0, 24, #[.bool false, .slice none 0 0, .slice none 0 0], CAny⟩, ⟨w1.heap.size, 14, 0, 46, #[.bool b1, .slice A1 n1 c1], CAny⟩, ⟨w1.heap.size + 1, 14, 0, 46, #[.bool b'1, .slice A'1 n'1 c'1], CAny⟩, ⟨w3.heap.size, 14, 0, 46, #[.bool b3, .slice A3 n3 c3], CAny⟩, ⟨w4.heap.size, 14, 0, 46, #[.bool b4, .slice A4 n4 c4], CAny⟩]) (x0 := (fun _ => undef)) (by kernel_rfl)
    (each_of ⟨fun _ _ => rfl, fun _ _ => rfl, fun _ _ => rfl, fun _ _ => rfl, fun _ _ => rfl, fun _ _ => rfl, fun _ _ => rfl, fun _ _ => rfl, fun _ _ => rfl, fun _ _ => rfl, fun _ _ => rfl, fun _ _ => rfl, fun _ _ => rfl, fun _ _ => rfl, trivial⟩) (each_of (acyc_from _ 0 (by kernel_rfl))) (AllStab.get _ ⟨stEq _, stEq _, stI _ _, stEq _, stEq _, stEq _, stEq _, stEq _, stEq _, stI _ _, stEq _, stEq _, stEq _, stEq _, trivial⟩)
    (fun _ h => nomatch h) (List.forall_mem_cons.2 ⟨scAny, List.forall_mem_cons.2 ⟨scAny, List.forall_mem_cons.2 ⟨scAny, List.forall_mem_cons.2 ⟨scAny, List.forall_mem_cons.2 ⟨scAny, List.forall_mem_cons.2 ⟨scAny, fun _ h => nomatch h⟩⟩⟩⟩⟩⟩) (fun _ h => nomatch h) bw5.size
    (List.forall_mem_cons.2 ⟨⟨x1a, by show w.heap.size ≤ w.heap.size; omega⟩, List.forall_mem_cons.2 ⟨⟨x1b, by show w.heap.size ≤ w.heap.size + 1; omega⟩, List.forall_mem_cons.2 ⟨⟨x2a, by show w.heap.size ≤ w1.heap.size; omega⟩, List.forall_mem_cons.2 ⟨⟨x2b, by show w.heap.size ≤ w1.heap.size + 1; omega⟩, List.forall_mem_cons.2 ⟨⟨x4a, by show w.heap.size ≤ w3.heap.size; omega⟩, List.forall_mem_cons.2 ⟨⟨x5a, by show w.heap.size ≤ w4.heap.size; omega⟩, fun _ h => nomatch h⟩⟩⟩⟩⟩⟩) (ownDist (by simp <;> omega))
    (each_of ⟨?_, ?_, ?_, ?_, ?_, ?_, ?_, ?_, ?_, ?_, ?_, ?_, ?_, ?_, trivial⟩) ?_
  · exact .inl ⟨by simp, by simp, fun xf wq hk hbl hd K hK => by
      have y : Blk wq w3.heap.size 46 #[.bool b3, .slice A3 n3 c3] := hbl _ (List.Mem.tail _ (List.Mem.tail _ (List.Mem.tail _ (List.Mem.tail _ (List.Mem.head _))))) (by simp [Region.binds])
      obtain ⟨hcl0, hcl1⟩ := y.c2
      (try dsimp only)
      go_simp
      exact hK.out (.agg #[.bool b3, .slice A3 n3 c3]) _ rfl (brefl _)⟩
  · exact .inl ⟨by simp, by simp, fun xf wq hk hbl hd K hK => by
      have y : Blk wq w3.heap.size 46 #[.bool b3, .slice A3 n3 c3] := hbl _ (List.Mem.tail _ (List.Mem.tail _ (List.Mem.tail _ (List.Mem.tail _ (List.Mem.head _))))) (by simp [Region.binds])
      obtain ⟨hcl0, hcl1⟩ := y.c2
      (try dsimp only)
      go_simp
      exact hK.out (.agg #[.bool b3, .slice A3 n3 c3]) _ rfl (brefl _)⟩
  · exact .inl ⟨by simp, by simp, fun xf wq hk hbl hd K hK => by
      have dq0 : xf 0 = .agg #[.bool b3, .slice A3 n3 c3] := hd ⟨0, .data⟩ (by simp) rfl
      have dq1 : xf 1 = .agg #[.bool b3, .slice A3 n3 c3] := hd ⟨1, .data⟩ (by simp) rfl
      (try dsimp only); (try simp only [dq0, dq1])
      go_simp
      go_at_call 106
      (with_reducible refine (i_mul _ b3 A3 n3 c3 (((isq (q.num).natAbs : Nat) : Int)) (k) ?_ b3 A3 n3 c3 (((isq (q.num).natAbs : Nat) : Int)) (k) ?_ ?_).mono ?_); (exact (h3.keep hk).iz); (exact (h3.keep hk).iz); (first | omega | decide | assumption); rintro e wr ⟨b7, A7, n7, c7, rfl, h7, hbr⟩
      have hz := hK.out _ _ ⟨b7, A7, n7, c7, rfl, h7⟩ hbr
      simp only [dq0, dq1] at hz
      exact hz⟩
  · exact .inl ⟨by simp, by simp, fun xf wq hk hbl hd K hK => by
      have y : Blk wq w1.heap.size 46 #[.bool b1, .slice A1 n1 c1] := hbl _ (List.Mem.tail _ (List.Mem.tail _ (List.Mem.head _))) (by simp [Region.binds])
      obtain ⟨hcl0, hcl1⟩ := y.c2
      (try dsimp only)
      go_simp
      exact hK.out (.agg #[.bool b1, .slice A1 n1 c1]) _ rfl (brefl _)⟩
  · exact .inl ⟨by simp, by simp, fun xf wq hk hbl hd K hK => by
      obtain ⟨b7, A7, n7, c7, dq2, h7⟩ : VI ((((isq (q.num).natAbs : Nat) : Int)) * (((isq (q.num).natAbs : Nat) : Int))) ((k) + (k)) (xf 2) wq := hd ⟨2, .data⟩ (by simp) rfl
      have dq3 : xf 3 = .agg #[.bool b1, .slice A1 n1 c1] := hd ⟨3, .data⟩ (by simp) rfl
      (try dsimp only); (try simp only [dq2, dq3])
      go_simp
      go_at_call 59
      (with_reducible refine (i_cmp_v2 _ b7 A7 n7 c7 ((((isq (q.num).natAbs : Nat) : Int)) * (((isq (q.num).natAbs : Nat) : Int))) ((k) + (k)) ?_ b1 A1 n1 c1 ((q).num) ((k)) ?_ (0) HC1.out ?_).mono ?_); (exact h7.iz); (exact (h1.keep hk).iz); (first | omega | assumption); rintro e wr ⟨rfl, hbr⟩
      have hz := hK.out (.int .i64 (0)) _ rfl hbr
      simp only [dq2, dq3] at hz
      exact hz⟩
  · exact .inl ⟨by simp, by simp, fun xf wq hk hbl hd K hK => by
      have dq4 : xf 4 = .int .i64 (0) := hd ⟨4, .data⟩ (by simp) rfl
      (try dsimp only); (try simp only [dq4])
      go_simp
      have hz := hK.out (.bool false) _ rfl (brefl _)
      simp only [dq4] at hz
      exact hz⟩
  · exact .inl ⟨by simp, by simp, fun xf wq hk hbl hd K hK => by
      have dq5 : xf 5 = .bool false := hd ⟨5, .data⟩ (by simp) rfl
      (try dsimp only); (try simp only [dq5])
      go_simp
      have hz := hK.out (.bool false) _ rfl (brefl _)
      simp only [dq5] at hz
      exact hz⟩
  · exact .inl ⟨by simp, by simp, fun xf wq hk hbl hd K hK => by
      have dq6 : xf 6 = .bool false := hd ⟨6, .guard⟩ (by simp) rfl
      have y : Blk wq w4.heap.size 46 #[.bool b4, .slice A4 n4 c4] := hbl _ (List.Mem.tail _ (List.Mem.tail _ (List.Mem.tail _ (List.Mem.tail _ (List.Mem.tail _ (List.Mem.head _)))))) (by simp [Region.binds])
      obtain ⟨hcl0, hcl1⟩ := y.c2
      (try dsimp only); (try simp only [dq6])
      go_simp
      have hz := hK.out (.agg #[.bool b4, .slice A4 n4 c4]) _ rfl (brefl _)
      simp only [dq6] at hz
      exact hz⟩
  · exact .inl ⟨by simp, by simp, fun xf wq hk hbl hd K hK => by
      have dq6 : xf 6 = .bool false := hd ⟨6, .guard⟩ (by simp) rfl
      have y : Blk wq w4.heap.size 46 #[.bool b4, .slice A4 n4 c4] := hbl _ (List.Mem.tail _ (List.Mem.tail _ (List.Mem.tail _ (List.Mem.tail _ (List.Mem.tail _ (List.Mem.head _)))))) (by simp [Region.binds])
      obtain ⟨hcl0, hcl1⟩ := y.c2
      (try dsimp only); (try simp only [dq6])
      go_simp
      have hz := hK.out (.agg #[.bool b4, .slice A4 n4 c4]) _ rfl (brefl _)
      simp only [dq6] at hz
      exact hz⟩
  · exact .inl ⟨by simp, by simp, fun xf wq hk hbl hd K hK => by
      have dq7 : xf 7 = .agg #[.bool b4, .slice A4 n4 c4] := hd ⟨7, .data⟩ (by simp) rfl
      have dq8 : xf 8 = .agg #[.bool b4, .slice A4 n4 c4] := hd ⟨8, .data⟩ (by simp) rfl
      have dq6 : xf 6 = .bool false := hd ⟨6, .guard⟩ (by simp) rfl
      (try dsimp only); (try simp only [dq7, dq8, dq6])
      go_simp
      go_at_call 106
      (with_reducible refine (i_mul _ b4 A4 n4 c4 (((isq ((q.den : Int)).natAbs : Nat) : Int)) (k) ?_ b4 A4 n4 c4 (((isq ((q.den : Int)).natAbs : Nat) : Int)) (k) ?_ ?_).mono ?_); (exact (h4.keep hk).iz); (exact (h4.keep hk).iz); (first | omega | decide | assumption); rintro e wr ⟨b9, A9, n9, c9, rfl, h9, hbr⟩
      have hz := hK.out _ _ ⟨b9, A9, n9, c9, rfl, h9⟩ hbr
      simp only [dq7, dq8, dq6] at hz
      exact hz⟩
  · exact .inl ⟨by simp, by simp, fun xf wq hk hbl hd K hK => by
      have dq6 : xf 6 = .bool false := hd ⟨6, .guard⟩ (by simp) rfl
      have y : Blk wq (w1.heap.size + 1) 46 #[.bool b'1, .slice A'1 n'1 c'1] := hbl _ (List.Mem.tail _ (List.Mem.tail _ (List.Mem.tail _ (List.Mem.head _)))) (by simp [Region.binds])
      obtain ⟨hcl0, hcl1⟩ := y.c2
      (try dsimp only); (try simp only [dq6])
      go_simp
      have hz := hK.out (.agg #[.bool b'1, .slice A'1 n'1 c'1]) _ rfl (brefl _)
      simp only [dq6] at hz
      exact hz⟩
  · exact .inl ⟨by simp, by simp, fun xf wq hk hbl hd K hK => by
      obtain ⟨b9, A9, n9, c9, dq9, h9⟩ : VI ((((isq ((q.den : Int)).natAbs : Nat) : Int)) * (((isq ((q.den : Int)).natAbs : Nat) : Int))) ((k) + (k)) (xf 9) wq := hd ⟨9, .data⟩ (by simp) rfl
      have dq10 : xf 10 = .agg #[.bool b'1, .slice A'1 n'1 c'1] := hd ⟨10, .data⟩ (by simp) rfl
      have dq6 : xf 6 = .bool false := hd ⟨6, .guard⟩ (by simp) rfl
      (try dsimp only); (try simp only [dq9, dq10, dq6])
      go_simp
      go_at_call 59
      (with_reducible refine (i_cmp_v2 _ b9 A9 n9 c9 ((((isq ((q.den : Int)).natAbs : Nat) : Int)) * (((isq ((q.den : Int)).natAbs : Nat) : Int))) ((k) + (k)) ?_ b'1 A'1 n'1 c'1 (((q).den : Int)) ((k)) ?_ (0) HC2.out ?_).mono ?_); (exact h9.iz); (exact (h'1.keep hk).iz); (first | omega | assumption); rintro e wr ⟨rfl, hbr⟩
      have hz := hK.out (.int .i64 (0)) _ rfl hbr
      simp only [dq9, dq10, dq6] at hz
      exact hz⟩
  · exact .inl ⟨by simp, by simp, fun xf wq hk hbl hd K hK => by
      have dq11 : xf 11 = .int .i64 (0) := hd ⟨11, .data⟩ (by simp) rfl
      have dq6 : xf 6 = .bool false := hd ⟨6, .guard⟩ (by simp) rfl
      (try dsimp only); (try simp only [dq11, dq6])
      go_simp
      have hz := hK.out (.bool false) _ rfl (brefl _)
      simp only [dq11, dq6] at hz
      exact hz⟩
  · exact .inl ⟨by simp, by simp, fun xf wq hk hbl hd K hK => by
      have dq6 : xf 6 = .bool false := hd ⟨6, .data⟩ (by simp) rfl
      have dq12 : xf 12 = .bool false := hd ⟨12, .data⟩ (by simp) rfl
      (try dsimp only); (try simp only [dq6, dq12])
      go_simp
      have hz := hK.out (.bool false) _ rfl (brefl _)
      simp only [dq6, dq12] at hz
      exact hz⟩
  clear cx2aa cx2ab lx2aa lx2ab lx2ac lx2ad cx2ba cx2bb lx2ba lx2bb lx2bc lx2bd cx4aa cx4ab lx4aa lx4ab lx4ac lx4ad cx5aa cx5ab lx5aa lx5ab lx5ac lx5ad
  intro y6 w6 kq6 hbl6 lw6 how hrr hfl hds
  replace h := h.keep kq6
  replace h1 := h1.keep kq6
  replace h'1 := h'1.keep kq6
  replace h3 := h3.keep kq6
  replace h4 := h4.keep kq6
  obtain ⟨_, z6_0, ez, _⟩ := how _ (List.Mem.head _)
  obtain rfl := ez (by simp)
  dsimp only at z6_0
  obtain ⟨_, z6_1, ez, _⟩ := how _ (List.Mem.tail _ (List.Mem.head _))
  obtain rfl := ez (by simp)
  dsimp only at z6_1
  obtain ⟨_, z6_2, ez, _⟩ := how _ (List.Mem.tail _ (List.Mem.tail _ (List.Mem.head _)))
  obtain rfl := ez (by simp)
  dsimp only at z6_2
  obtain ⟨_, z6_3, ez, _⟩ := how _ (List.Mem.tail _ (List.Mem.tail _ (List.Mem.tail _ (List.Mem.head _))))
  obtain rfl := ez (by simp)
  dsimp only at z6_3
  obtain ⟨_, z6_4, ez, _⟩ := how _ (List.Mem.tail _ (List.Mem.tail _ (List.Mem.tail _ (List.Mem.tail _ (List.Mem.head _)))))
  obtain rfl := ez (by simp)
  dsimp only at z6_4
  obtain ⟨_, z6_5, ez, _⟩ := how _ (List.Mem.tail _ (List.Mem.tail _ (List.Mem.tail _ (List.Mem.tail _ (List.Mem.tail _ (List.Mem.head _))))))
  obtain rfl := ez (by simp)
  dsimp only at z6_5
  have ea13 : y6 13 = .bool false := hrr 13 (by simp)
  (try dsimp only)
  simp only [ea13]
  clear hrr hfl how hds ea13
  clear x1a x1b x2a x2b x4a x5a
  have bw6 := bw5.trans hbl6
  clear bw5
  obtain ⟨cz6_4_0, cz6_4_1⟩ := z6_4.c2
  obtain ⟨lz6_4_0, lz6_4_1, lz6_4_2, lz6_4_3⟩ := lts0 z6_4.lt
  obtain ⟨cz6_5_0, cz6_5_1⟩ := z6_5.c2
  obtain ⟨lz6_5_0, lz6_5_1, lz6_5_2, lz6_5_3⟩ := lts0 z6_5.lt
  go_wp2_with fail
  (with_reducible refine (f_form _ b3 A3 n3 c3 (((isq (q.num).natAbs : Nat) : Int)) (k) ?_ b4 A4 n4 c4 (((isq ((q.den : Int)).natAbs : Nat) : Int)) (k) ?_ (Rat.divInt ((isq q.num.natAbs : Nat) : Int) ((isq q.den : Nat) : Int)) k ?_ ?_ ?_ ?_).mono ?_); (exact h3.iz); (exact h4.iz); (exact HD.out); (rfl); (exact HS.out); (omega); rintro e w12 ⟨b12, A12, n12, c12, A'12, n'12, c'12, rfl, h12, q12⟩
  clear cz6_4_0 cz6_4_1 lz6_4_0 lz6_4_1 lz6_4_2 lz6_4_3 cz6_5_0 cz6_5_1 lz6_5_0 lz6_5_1 lz6_5_2 lz6_5_3
  replace h := h.belw q12
  replace h1 := h1.belw q12
  replace h'1 := h'1.belw q12
  replace h3 := h3.belw q12
  replace h4 := h4.belw q12
  replace z6_0 := z6_0.b q12
  replace z6_1 := z6_1.b q12
  replace z6_2 := z6_2.b q12
  replace z6_3 := z6_3.b q12
  replace z6_4 := z6_4.b q12
  replace z6_5 := z6_5.b q12
  have bw12 := bw6.trans (q12.mono bw6.size)
  have lw12 := q12.size
  clear q12 bw6
  obtain ⟨cz6_1_0, cz6_1_1, cz6_1_2⟩ := z6_1.c3
  obtain ⟨fz6_1_0, fz6_1_1, fz6_1_2⟩ := z6_1.f3
  obtain ⟨lz6_1_0, lz6_1_1, lz6_1_2, lz6_1_3⟩ := lts1 z6_1.lt
  go_wp2_with fail
  refine bodyPost_ret (v := .tuple #[.agg #[.bool b12, .slice A12 n12 c12, .slice A'12 n'12 c'12], .bool true]) (by simp [results, Tryz.results47, go_sem, *] <;> first | rfl | exact ⟨rfl, rfl⟩) rfl ?_
  exact ⟨b12, A12, n12, c12, A'12, n'12, c'12, rfl, h12.keep ((((Kp.refl w12).sb (w.heap.size + 1) 0 z6_1.box (by decide) (.bool b12)).sb (w.heap.size + 1) 1 (z6_1.box.set ⟨w.heap.size + 1, 0, none⟩ (.bool b12)) (by decide) (.slice A12 n12 c12)).sb (w.heap.size + 1) 2 ((z6_1.box.set ⟨w.heap.size + 1, 0, none⟩ (.bool b12)).set ⟨w.heap.size + 1, 1, none⟩ (.slice A12 n12 c12)) (by decide) (.slice A'12 n'12 c'12)), (((bw12.sc (w.heap.size + 1) 0 (by omega) (.bool b12)).sc (w.heap.size + 1) 1 (by omega) (.slice A12 n12 c12)).sc (w.heap.size + 1) 2 (by omega) (.slice A'12 n'12 c'12))⟩
theorem f_root_b1 (w : World) (b : Bool) (A : Option Addr) (n c : Nat) (D : Option Addr) (m e : Nat) (q : Rat) (k : Nat) (h : QZ w b A n c D m e q k) (h0 : 0 < k) (hk : k ≤ 1000000) (hx : q.num.sign = 1) (h1 : isq q.num.natAbs * isq q.num.natAbs = q.num.natAbs) (h2 : ¬ isq q.den * isq q.den = q.den) :
    Calls Tryz.prog 47 #[.agg #[.bool b, .slice A n c, .slice D m e]] w (RetFe w (.bool false) (0) k) := by
  have hp : 0 ≤ q.num := by rcases Int.lt_trichotomy q.num 0 with e | e | e
                            · rw [Int.sign_eq_neg_one_of_neg e] at hx; exact absurd hx (by decide)
                            · omega
                            · omega
  have HX := Lib.hid hx
  have HE1 := Lib.hid (And.intro (rootE_pos hp) (rootZ_pos hp))
  have HE2 := Lib.hid (And.intro (rootE_pos (z := (q.den : Int)) (by omega)) (rootZ_pos (z := (q.den : Int)) (by omega)))
  have HC1 := Lib.hid (cmp_sq0 hp h1)
  have HC2 := Lib.hid (cmp_sq1 (z := (q.den : Int)) (by omega) h2)
  clear hx hp h1 h2
  go_enter Tryz.func47, Tryz.ntmps47
  go_wp2_with fail
  (with_reducible refine (f_parts _ b A n c D m e (q) (k) ?_ ?_ ?_).mono ?_); (exact (h.belw (((Below.refl _ _).alloc (Nat.le_refl _) _).alloc (by simp) _))); (first | omega | decide | assumption); (first | omega | decide | assumption); rintro e w1 ⟨b1, A1, n1, c1, b'1, A'1, n'1, c'1, rfl, h1, h'1, hb1⟩
  have q1 := (((Below.refl _ _).alloc (Nat.le_refl _) _).alloc (by simp) _).trans (hb1.mono (by simp <;> omega))
  replace h := h.belw q1
  have x1a : Blk w1 w.heap.size 24 #[.bool b, .slice A n c, .slice D m e] := ((blkAt _ _ _ (by simp)).alloc _).below hb1 (by simp <;> omega)
  have x1b := (blkAt _ _ _ (g := w.heap.size + 1) (by simp)).below hb1 (by simp)
  have bw1 := (brefl w).trans (q1.mono (brefl w).size)
  have lw1 : w.heap.size + 2 ≤ w1.heap.size := by have := hb1.size; simp at this; omega
  clear q1
  go_wp2_with fail
  (with_reducible refine (i_sign_e _ b1 A1 n1 c1 ((q).num) ((k)) ?_ 1 ?_ ?_).mono ?_); (exact (h1.belw (((Below.refl _ _).alloc (Nat.le_refl _) _).alloc (by simp) _)).iz); (exact HX.out); (omega); rintro e w2 ⟨rfl, hb2⟩
  have q2 := (((Below.refl _ _).alloc (Nat.le_refl _) _).alloc (by simp) _).trans (hb2.mono (by simp <;> omega))
  replace h := h.belw q2
  replace h1 := h1.belw q2
  replace h'1 := h'1.belw q2
  replace x1a := x1a.b q2
  replace x1b := x1b.b q2
  have x2a : Blk w2 w1.heap.size 46 #[.bool b1, .slice A1 n1 c1] := ((blkAt _ _ _ (by simp)).alloc _).below hb2 (by simp <;> omega)
  have x2b := (blkAt _ _ _ (g := w1.heap.size + 1) (by simp)).below hb2 (by simp)
  have bw2 := bw1.trans (q2.mono bw1.size)
  have lw2 : w1.heap.size + 2 ≤ w2.heap.size := by have := hb2.size; simp at this; omega
  clear q2 bw1
  obtain ⟨cx2aa, cx2ab⟩ := x2a.c2
  obtain ⟨lx2aa, lx2ab, lx2ac, lx2ad⟩ := lts0 x2a.lt
  go_wp2_with fail
  (with_reducible refine (i_root _ b1 A1 n1 c1 ((q).num) ((k)) ?_ (by omega) (.nilIface) HE1.out.1 ((isq (q.num).natAbs : Nat) : Int) HE1.out.2).mono ?_); (exact h1.iz); rintro e w3 ⟨b3, A3, n3, c3, rfl, h3, q3⟩
  clear cx2aa cx2ab lx2aa lx2ab lx2ac lx2ad
  replace h := h.belw q3
  replace h1 := h1.belw q3
  replace h'1 := h'1.belw q3
  replace x1a := x1a.b q3
  replace x1b := x1b.b q3
  replace x2a := x2a.b q3
  replace x2b := x2b.b q3
  have bw3 := bw2.trans (q3.mono bw2.size)
  have lw3 := q3.size
  clear q3 bw2
  obtain ⟨cx2ba, cx2bb⟩ := x2b.c2
  obtain ⟨lx2ba, lx2bb, lx2bc, lx2bd⟩ := lts1 x2b.lt
  go_wp2_with fail
  (with_reducible refine (i_root _ b'1 A'1 n'1 c'1 (((q).den : Int)) ((k)) ?_ (by omega) (.nilIface) HE2.out.1 ((isq ((q.den : Int)).natAbs : Nat) : Int) HE2.out.2).mono ?_); (exact (h'1.belw ((Below.refl _ _).alloc (Nat.le_refl _) _)).iz); rintro e w4 ⟨b4, A4, n4, c4, rfl, h4, hb4⟩
  clear cx2ba cx2bb lx2ba lx2bb lx2bc lx2bd
  have q4 := ((Below.refl _ _).alloc (Nat.le_refl _) _).trans (hb4.mono (by simp))
  replace h := h.belw q4
  replace h1 := h1.belw q4
  replace h'1 := h'1.belw q4
  replace h3 := h3.belw q4
  replace x1a := x1a.b q4
  replace x1b := x1b.b q4
  replace x2a := x2a.b q4
  replace x2b := x2b.b q4
  have x4a : Blk w4 w3.heap.size 46 #[.bool b3, .slice A3 n3 c3] := (blkAt _ _ _ (by simp)).below hb4 (by simp)
  have bw4 := bw3.trans (q4.mono bw3.size)
  have lw4 : w3.heap.size + 1 ≤ w4.heap.size := by have := hb4.size; simp at this; omega
  clear q4 bw3
  go_wp2_with fail
  have p5 := ((Kp.refl w4).alloc (.cells #[.bool b4, .slice A4 n4 c4] 46))
  have bw5 := (bw4.alloc (by first | omega | (simp <;> omega)) (.cells #[.bool b4, .slice A4 n4 c4] 46))
  have x5a : Blk (w4.alloc (.cells #[.bool b4, .slice A4 n4 c4] 46)) w4.heap.size 46 #[.bool b4, .slice A4 n4 c4] := (blkAt _ _ _ (by simp))
  replace x1a := (x1a.alloc (.cells #[.bool b4, .slice A4 n4 c4] 46))
  replace x1b := (x1b.alloc (.cells #[.bool b4, .slice A4 n4 c4] 46))
  replace x2a := (x2a.alloc (.cells #[.bool b4, .slice A4 n4 c4] 46))
  replace x2b := (x2b.alloc (.cells #[.bool b4, .slice A4 n4 c4] 46))
  replace x4a := (x4a.alloc (.cells #[.bool b4, .slice A4 n4 c4] 46))
  have lw5 : w4.heap.size + 1 ≤ (w4.alloc (.cells #[.bool b4, .slice A4 n4 c4] 46)).heap.size := by simp
  generalize hE5 : (w4.alloc (.cells #[.bool b4, .slice A4 n4 c4] 46)) = w5 at p5 bw5 lw5 x5a x1a x1b x2a x2b x4a ⊢
  clear hE5
  replace h := h.keep p5
  replace h1 := h1.keep p5
  replace h'1 := h'1.keep p5
  replace h3 := h3.keep p5
  replace h4 := h4.keep p5
  clear bw4
  obtain ⟨cx2aa, cx2ab⟩ := x2a.c2
  obtain ⟨lx2aa, lx2ab, lx2ac, lx2ad⟩ := lts0 x2a.lt
  obtain ⟨cx2ba, cx2bb⟩ := x2b.c2
  obtain ⟨lx2ba, lx2bb, lx2bc, lx2bd⟩ := lts1 x2b.lt
  obtain ⟨cx4aa, cx4ab⟩ := x4a.c2
  obtain ⟨lx4aa, lx4ab, lx4ac, lx4ad⟩ := lts0 x4a.lt
  obtain ⟨cx5aa, cx5ab⟩ := x5a.c2
  obtain ⟨lx5aa, lx5ab, lx5ac, lx5ad⟩ := lts0 x5a.lt
  refine wp_region_lin (B := w.heap.size) (fr := fun xf => ⟨List.toArray (.agg #[.bool b, .slice A n c, .slice D m e] :: .pointer (some ⟨w.heap.size, 0, none⟩) :: .pointer (some ⟨w.heap.size + 1, 0, none⟩) :: .bool false :: .pointer (some ⟨w1.heap.size, 0, none⟩) :: .pointer (some ⟨w1.heap.size + 1, 0, none⟩) :: .pointer (some ⟨w3.heap.size, 0, none⟩) :: .nilIface :: .pointer (some ⟨w4.heap.size, 0, none⟩) :: .nilIface :: .tuple #[.agg #[.bool b1, .slice A1 n1 c1], .agg #[.bool b'1, .slice A'1 n'1 c'1]] :: .agg #[.bool b, .slice A n c, .slice D m e] :: .tuple #[.agg #[.bool b1, .slice A1 n1 c1], .agg #[.bool b'1, .slice A'1 n'1 c'1]] :: .agg #[.bool b1, .slice A1 n1 c1] :: .agg #[.bool b'1, .slice A'1 n'1 c'1] :: .agg #[.bool b1, .slice A1 n1 c1] :: .int .i64 1 :: .bool false :: undef :: .tuple #[.agg #[.bool b3, .slice A3 n3 c3], .nilIface] :: .agg #[.bool b1, .slice A1 n1 c1] :: .tuple #[.agg #[.bool b3, .slice A3 n3 c3], .nilIface] :: .agg #[.bool b3, .slice A3 n3 c3] :: .nilIface :: .tuple #[.agg #[.bool b4, .slice A4 n4 c4], .nilIface] :: .agg #[.bool b'1, .slice A'1 n'1 c'1] :: .tuple #[.agg #[.bool b4, .slice A4 n4 c4], .nilIface] :: .agg #[.bool b4, .slice A4 n4 c4] :: .nilIface :: xf 0 :: xf 1 :: xf 2 :: xf 3 :: xf 4 :: xf 5 :: xf 6 :: xf 7 :: xf 8 :: xf 9 :: xf 10 :: xf 11 :: xf 12 :: xf 13 :: undef :: undef :: undef :: undef :: []), []⟩) (R := fun i => List.getD ((PEq (.agg #[.bool b3, .slice A3 n3 c3])) :: (PEq (.agg #[.bool b3, .slice A3 n3 c3])) :: (VI ((((isq (q.num).natAbs : Nat) : Int)) * (((isq (q.num).natAbs : Nat) : Int))) ((k) + (k))) :: (PEq (.agg #[.bool b1, .slice A1 n1 c1])) :: (PEq (.int .i64 (0))) :: (PEq (.bool false)) :: (PEq (.bool false)) :: (PEq (.agg #[.bool b4, .slice A4 n4 c4])) :: (PEq (.agg #[.bool b4, .slice A4 n4 c4])) :: (VI ((((isq ((q.den : Int)).natAbs : Nat) : Int)) * (((isq ((q.den : Int)).natAbs : Nat) : Int))) ((k) + (k))) :: (PEq (.agg #[.bool b'1, .slice A'1 n'1 c'1])) :: (PEq (.int .i64 (-1))) :: (PEq (.bool true)) :: (PEq (.bool true)) :: []) i (fun _ _ => True)) (es := []) (ow := [⟨w.heap.size, 14, 0, 24, #[.bool b, .slice A n c, .slice D m e], CAny⟩, ⟨w.heap.size + 1, 14, 0, 24, #[.bool false, .slice none 0 0, .slice none 0 0], CAny⟩, ⟨w1.heap.size, 14, 0, 46, #[.bool b1, .slice A1 n1 c1], CAny⟩, ⟨w1.heap.size + 1, 14, 0, 46, #[.bool b'1, .slice A'1 n'1 c'1], CAny⟩, ⟨w3.heap.size, 14, 0, 46, #[.bool b3, .slice A3 n3 c3], CAny⟩, ⟨w4.heap.size, 14, 0, 46, #[.bool b4, .slice A4 n4 c4], CAny⟩]) (x0 := (fun _ => undef)) (by kernel_rfl)
    (each_of ⟨fun _ _ => rfl, fun _ _ => rfl, fun _ _ => rfl, fun _ _ => rfl, fun _ _ => rfl, fun _ _ => rfl, fun _ _ => rfl, fun _ _ => rfl, fun _ _ => rfl, fun _ _ => rfl, fun _ _ => rfl, fun _ _ => rfl, fun _ _ => rfl, fun _ _ => rfl, trivial⟩) (each_of (acyc_from _ 0 (by kernel_rfl))) (AllStab.get _ ⟨stEq _, stEq _, stI _ _, stEq _, stEq _, stEq _, stEq _, stEq _, stEq _, stI _ _, stEq _, stEq _, stEq _, stEq _, trivial⟩)
    (fun _ h => nomatch h) (List.forall_mem_cons.2 ⟨scAny, List.forall_mem_cons.2 ⟨scAny, List.forall_mem_cons.2 ⟨scAny, List.forall_mem_cons.2 ⟨scAny, List.forall_mem_cons.2 ⟨scAny, List.forall_mem_cons.2 ⟨scAny, fun _ h => nomatch h⟩⟩⟩⟩⟩⟩) (fun _ h => nomatch h) bw5.size
    (List.forall_mem_cons.2 ⟨⟨x1a, by show w.heap.size ≤ w.heap.size; omega⟩, List.forall_mem_cons.2 ⟨⟨x1b, by show w.heap.size ≤ w.heap.size + 1; omega⟩, List.forall_mem_cons.2 ⟨⟨x2a, by show w.heap.size ≤ w1.heap.size; omega⟩, List.forall_mem_cons.2 ⟨⟨x2b, by show w.heap.size ≤ w1.heap.size + 1; omega⟩, List.forall_mem_cons.2 ⟨⟨x4a, by show w.heap.size ≤ w3.heap.size; omega⟩, List.forall_mem_cons.2 ⟨⟨x5a, by show w.heap.size ≤ w4.heap.size; omega⟩, fun _ h => nomatch h⟩⟩⟩⟩⟩⟩) (ownDist (by simp <;> omega))
    (each_of ⟨?_, ?_, ?_, ?_, ?_, ?_, ?_, ?_, ?_, ?_, ?_, ?_, ?_, ?_, trivial⟩) ?_
  · exact .inl ⟨by simp, by simp, fun xf wq hk hbl hd K hK => by
      have y : Blk wq w3.heap.size 46 #[.bool b3, .slice A3 n3 c3] := hbl _ (List.Mem.tail _ (List.Mem.tail _ (List.Mem.tail _ (List.Mem.tail _ (List.Mem.head _))))) (by simp [Region.binds])
      obtain ⟨hcl0, hcl1⟩ := y.c2
      (try dsimp only)
      go_simp
      exact hK.out (.agg #[.bool b3, .slice A3 n3 c3]) _ rfl (brefl _)⟩
  · exact .inl ⟨by simp, by simp, fun xf wq hk hbl hd K hK => by
      have y : Blk wq w3.heap.size 46 #[.bool b3, .slice A3 n3 c3] := hbl _ (List.Mem.tail _ (List.Mem.tail _ (List.Mem.tail _ (List.Mem.tail _ (List.Mem.head _))))) (by simp [Region.binds])
      obtain ⟨hcl0, hcl1⟩ := y.c2
      (try dsimp only)
      go_simp
      exact hK.out (.agg #[.bool b3, .slice A3 n3 c3]) _ rfl (brefl _)⟩
  · exact .inl ⟨by simp, by simp, fun xf wq hk hbl hd K hK => by
      have dq0 : xf 0 = .agg #[.bool b3, .slice A3 n3 c3] := hd ⟨0, .data⟩ (by simp) rfl
      have dq1 : xf 1 = .agg #[.bool b3, .slice A3 n3 c3] := hd ⟨1, .data⟩ (by simp) rfl
      (try dsimp only); (try simp only [dq0, dq1])
      go_simp
      go_at_call 106
      (with_reducible refine (i_mul _ b3 A3 n3 c3 (((isq (q.num).natAbs : Nat) : Int)) (k) ?_ b3 A3 n3 c3 (((isq (q.num).natAbs : Nat) : Int)) (k) ?_ ?_).mono ?_); (exact (h3.keep hk).iz); (exact (h3.keep hk).iz); (first | omega | decide | assumption); rintro e wr ⟨b7, A7, n7, c7, rfl, h7, hbr⟩
      have hz := hK.out _ _ ⟨b7, A7, n7, c7, rfl, h7⟩ hbr
      simp only [dq0, dq1] at hz
      exact hz⟩
  · exact .inl ⟨by simp, by simp, fun xf wq hk hbl hd K hK => by
      have y : Blk wq w1.heap.size 46 #[.bool b1, .slice A1 n1 c1] := hbl _ (List.Mem.tail _ (List.Mem.tail _ (List.Mem.head _))) (by simp [Region.binds])
      obtain ⟨hcl0, hcl1⟩ := y.c2
      (try dsimp only)
      go_simp
      exact hK.out (.agg #[.bool b1, .slice A1 n1 c1]) _ rfl (brefl _)⟩
  · exact .inl ⟨by simp, by simp, fun xf wq hk hbl hd K hK => by
      obtain ⟨b7, A7, n7, c7, dq2, h7⟩ : VI ((((isq (q.num).natAbs : Nat) : Int)) * (((isq (q.num).natAbs : Nat) : Int))) ((k) + (k)) (xf 2) wq := hd ⟨2, .data⟩ (by simp) rfl
      have dq3 : xf 3 = .agg #[.bool b1, .slice A1 n1 c1] := hd ⟨3, .data⟩ (by simp) rfl
      (try dsimp only); (try simp only [dq2, dq3])
      go_simp
      go_at_call 59
      (with_reducible refine (i_cmp_v2 _ b7 A7 n7 c7 ((((isq (q.num).natAbs : Nat) : Int)) * (((isq (q.num).natAbs : Nat) : Int))) ((k) + (k)) ?_ b1 A1 n1 c1 ((q).num) ((k)) ?_ (0) HC1.out ?_).mono ?_); (exact h7.iz); (exact (h1.keep hk).iz); (first | omega | assumption); rintro e wr ⟨rfl, hbr⟩
      have hz := hK.out (.int .i64 (0)) _ rfl hbr
      simp only [dq2, dq3] at hz
      exact hz⟩
  · exact .inl ⟨by simp, by simp, fun xf wq hk hbl hd K hK => by
      have dq4 : xf 4 = .int .i64 (0) := hd ⟨4, .data⟩ (by simp) rfl
      (try dsimp only); (try simp only [dq4])
      go_simp
      have hz := hK.out (.bool false) _ rfl (brefl _)
      simp only [dq4] at hz
      exact hz⟩
  · exact .inl ⟨by simp, by simp, fun xf wq hk hbl hd K hK => by
      have dq5 : xf 5 = .bool false := hd ⟨5, .data⟩ (by simp) rfl
      (try dsimp only); (try simp only [dq5])
      go_simp
      have hz := hK.out (.bool false) _ rfl (brefl _)
      simp only [dq5] at hz
      exact hz⟩
  · exact .inl ⟨by simp, by simp, fun xf wq hk hbl hd K hK => by
      have dq6 : xf 6 = .bool false := hd ⟨6, .guard⟩ (by simp) rfl
      have y : Blk wq w4.heap.size 46 #[.bool b4, .slice A4 n4 c4] := hbl _ (List.Mem.tail _ (List.Mem.tail _ (List.Mem.tail _ (List.Mem.tail _ (List.Mem.tail _ (List.Mem.head _)))))) (by simp [Region.binds])
      obtain ⟨hcl0, hcl1⟩ := y.c2
      (try dsimp only); (try simp only [dq6])
      go_simp
      have hz := hK.out (.agg #[.bool b4, .slice A4 n4 c4]) _ rfl (brefl _)
      simp only [dq6] at hz
      exact hz⟩
  · exact .inl ⟨by simp, by simp, fun xf wq hk hbl hd K hK => by
      have dq6 : xf 6 = .bool false := hd ⟨6, .guard⟩ (by simp) rfl
      have y : Blk wq w4.heap.size 46 #[.bool b4, .slice A4 n4 c4] := hbl _ (List.Mem.tail _ (List.Mem.tail _ (List.Mem.tail _ (List.Mem.tail _ (List.Mem.tail _ (List.Mem.head _)))))) (by simp [Region.binds])
      obtain ⟨hcl0, hcl1⟩ := y.c2
      (try dsimp only); (try simp only [dq6])
      go_simp
      have hz := hK.out (.agg #[.bool b4, .slice A4 n4 c4]) _ rfl (brefl _)
      simp only [dq6] at hz
      exact hz⟩
  · exact .inl ⟨by simp, by simp, fun xf wq hk hbl hd K hK => by
      have dq7 : xf 7 = .agg #[.bool b4, .slice A4 n4 c4] := hd ⟨7, .data⟩ (by simp) rfl
      have dq8 : xf 8 = .agg #[.bool b4, .slice A4 n4 c4] := hd ⟨8, .data⟩ (by simp) rfl
      have dq6 : xf 6 = .bool false := hd ⟨6, .guard⟩ (by simp) rfl
      (try dsimp only); (try simp only [dq7, dq8, dq6])
      go_simp
      go_at_call 106
      (with_reducible refine (i_mul _ b4 A4 n4 c4 (((isq ((q.den : Int)).natAbs : Nat) : Int)) (k) ?_ b4 A4 n4 c4 (((isq ((q.den : Int)).natAbs : Nat) : Int)) (k) ?_ ?_).mono ?_); (exact (h4.keep hk).iz); (exact (h4.keep hk).iz); (first | omega | decide | assumption); rintro e wr ⟨b9, A9, n9, c9, rfl, h9, hbr⟩
      have hz := hK.out _ _ ⟨b9, A9, n9, c9, rfl, h9⟩ hbr
      simp only [dq7, dq8, dq6] at hz
      exact hz⟩
  · exact .inl ⟨by simp, by simp, fun xf wq hk hbl hd K hK => by
      have dq6 : xf 6 = .bool false := hd ⟨6, .guard⟩ (by simp) rfl
      have y : Blk wq (w1.heap.size + 1) 46 #[.bool b'1, .slice A'1 n'1 c'1] := hbl _ (List.Mem.tail _ (List.Mem.tail _ (List.Mem.tail _ (List.Mem.head _)))) (by simp [Region.binds])
      obtain ⟨hcl0, hcl1⟩ := y.c2
      (try dsimp only); (try simp only [dq6])
      go_simp
      have hz := hK.out (.agg #[.bool b'1, .slice A'1 n'1 c'1]) _ rfl (brefl _)
      simp only [dq6] at hz
      exact hz⟩
  · exact .inl ⟨by simp, by simp, fun xf wq hk hbl hd K hK => by
      obtain ⟨b9, A9, n9, c9, dq9, h9⟩ : VI ((((isq ((q.den : Int)).natAbs : Nat) : Int)) * (((isq ((q.den : Int)).natAbs : Nat) : Int))) ((k) + (k)) (xf 9) wq := hd ⟨9, .data⟩ (by simp) rfl
      have dq10 : xf 10 = .agg #[.bool b'1, .slice A'1 n'1 c'1] := hd ⟨10, .data⟩ (by simp) rfl
      have dq6 : xf 6 = .bool false := hd ⟨6, .guard⟩ (by simp) rfl
      (try dsimp only); (try simp only [dq9, dq10, dq6])
      go_simp
      go_at_call 59
      (with_reducible refine (i_cmp_v2 _ b9 A9 n9 c9 ((((isq ((q.den : Int)).natAbs : Nat) : Int)) * (((isq ((q.den : Int)).natAbs : Nat) : Int))) ((k) + (k)) ?_ b'1 A'1 n'1 c'1 (((q).den : Int)) ((k)) ?_ (-1) HC2.out ?_).mono ?_); (exact h9.iz); (exact (h'1.keep hk).iz); (first | omega | assumption); rintro e wr ⟨rfl, hbr⟩
      have hz := hK.out (.int .i64 (-1)) _ rfl hbr
      simp only [dq9, dq10, dq6] at hz
      exact hz⟩
  · exact .inl ⟨by simp, by simp, fun xf wq hk hbl hd K hK => by
      have dq11 : xf 11 = .int .i64 (-1) := hd ⟨11, .data⟩ (by simp) rfl
      have dq6 : xf 6 = .bool false := hd ⟨6, .guard⟩ (by simp) rfl
      (try dsimp only); (try simp only [dq11, dq6])
      go_simp
      have hz := hK.out (.bool true) _ rfl (brefl _)
      simp only [dq11, dq6] at hz
      exact hz⟩
  · exact .inl ⟨by simp, by simp, fun xf wq hk hbl hd K hK => by
      have dq6 : xf 6 = .bool false := hd ⟨6, .data⟩ (by simp) rfl
      have dq12 : xf 12 = .bool true := hd ⟨12, .data⟩ (by simp) rfl
      (try dsimp only); (try simp only [dq6, dq12])
      go_simp
      have hz := hK.out (.bool true) _ rfl (brefl _)
      simp only [dq6, dq12] at hz
      exact hz⟩
  clear cx2aa cx2ab lx2aa lx2ab lx2ac lx2ad cx2ba cx2bb lx2ba lx2bb lx2bc lx2bd cx4aa cx4ab lx4aa lx4ab lx4ac lx4ad cx5aa cx5ab lx5aa lx5ab lx5ac lx5ad
  intro y6 w6 kq6 hbl6 lw6 how hrr hfl hds
  replace h := h.keep kq6
  replace h1 := h1.keep kq6
  replace h'1 := h'1.keep kq6
  replace h3 := h3.keep kq6
  replace h4 := h4.keep kq6
  obtain ⟨_, z6_0, ez, _⟩ := how _ (List.Mem.head _)
  obtain rfl := ez (by simp)
  dsimp only at z6_0
  obtain ⟨_, z6_1, ez, _⟩ := how _ (List.Mem.tail _ (List.Mem.head _))
  obtain rfl := ez (by simp)
  dsimp only at z6_1
  obtain ⟨_, z6_2, ez, _⟩ := how _ (List.Mem.tail _ (List.Mem.tail _ (List.Mem.head _)))
  obtain rfl := ez (by simp)
  dsimp only at z6_2
  obtain ⟨_, z6_3, ez, _⟩ := how _ (List.Mem.tail _ (List.Mem.tail _ (List.Mem.tail _ (List.Mem.head _))))
  obtain rfl := ez (by simp)
  dsimp only at z6_3
  obtain ⟨_, z6_4, ez, _⟩ := how _ (List.Mem.tail _ (List.Mem.tail _ (List.Mem.tail _ (List.Mem.tail _ (List.Mem.head _)))))
  obtain rfl := ez (by simp)
  dsimp only at z6_4
  obtain ⟨_, z6_5, ez, _⟩ := how _ (List.Mem.tail _ (List.Mem.tail _ (List.Mem.tail _ (List.Mem.tail _ (List.Mem.tail _ (List.Mem.head _))))))
  obtain rfl := ez (by simp)
  dsimp only at z6_5
  have ea13 : y6 13 = .bool true := hrr 13 (by simp)
  (try dsimp only)
  simp only [ea13]
  clear hrr hfl how hds ea13
  clear x1a x1b x2a x2b x4a x5a
  have bw6 := bw5.trans hbl6
  clear bw5
  obtain ⟨cz6_1_0, cz6_1_1, cz6_1_2⟩ := z6_1.c3
  obtain ⟨fz6_1_0, fz6_1_1, fz6_1_2⟩ := z6_1.f3
  obtain ⟨lz6_1_0, lz6_1_1, lz6_1_2, lz6_1_3⟩ := lts1 z6_1.lt
  go_wp2_with fail
  refine bodyPost_ret (v := .tuple #[.agg #[.bool false, .slice none 0 0, .slice none 0 0], .bool false]) (by simp [results, Tryz.results47, go_sem, *] <;> first | rfl | exact ⟨rfl, rfl⟩) rfl ?_
  exact ⟨_, _, _, _, _, _, _, rfl, QV.zero _ _, (((bw6.sc (w.heap.size + 1) 0 (by omega) (.bool false)).sc (w.heap.size + 1) 1 (by omega) (.slice none 0 0)).sc (w.heap.size + 1) 2 (by omega) (.slice none 0 0))⟩
theorem f_root_c1 (w : World) (b : Bool) (A : Option Addr) (n c : Nat) (D : Option Addr) (m e : Nat) (q : Rat) (k : Nat) (h : QZ w b A n c D m e q k) (h0 : 0 < k) (hk : k ≤ 1000000) (hx : q.num.sign = 1) (h1 : ¬ isq q.num.natAbs * isq q.num.natAbs = q.num.natAbs) :
    Calls Tryz.prog 47 #[.agg #[.bool b, .slice A n c, .slice D m e]] w (RetFe w (.bool false) (0) k) := by
  have hp : 0 ≤ q.num := by rcases Int.lt_trichotomy q.num 0 with e | e | e
                            · rw [Int.sign_eq_neg_one_of_neg e] at hx; exact absurd hx (by decide)
                            · omega
                            · omega
  have HX := Lib.hid hx
  have HE1 := Lib.hid (And.intro (rootE_pos hp) (rootZ_pos hp))
  have HE2 := Lib.hid (And.intro (rootE_pos (z := (q.den : Int)) (by omega)) (rootZ_pos (z := (q.den : Int)) (by omega)))
  have HC1 := Lib.hid (cmp_sq1 hp h1)
  clear hx hp h1
  go_enter Tryz.func47, Tryz.ntmps47
  go_wp2_with fail
  (with_reducible refine (f_parts _ b A n c D m e (q) (k) ?_ ?_ ?_).mono ?_); (exact (h.belw (((Below.refl _ _).alloc (Nat.le_refl _) _).alloc (by simp) _))); (first | omega | decide | assumption); (first | omega | decide | assumption); rintro e w1 ⟨b1, A1, n1, c1, b'1, A'1, n'1, c'1, rfl, h1, h'1, hb1⟩
  have q1 := (((Below.refl _ _).alloc (Nat.le_refl _) _).alloc (by simp) _).trans (hb1.mono (by simp <;> omega))
  replace h := h.belw q1
  have x1a : Blk w1 w.heap.size 24 #[.bool b, .slice A n c, .slice D m e] := ((blkAt _ _ _ (by simp)).alloc _).below hb1 (by simp <;> omega)
  have x1b := (blkAt _ _ _ (g := w.heap.size + 1) (by simp)).below hb1 (by simp)
  have bw1 := (brefl w).trans (q1.mono (brefl w).size)
  have lw1 : w.heap.size + 2 ≤ w1.heap.size := by have := hb1.size; simp at this; omega
  clear q1
  go_wp2_with fail
  (with_reducible refine (i_sign_e _ b1 A1 n1 c1 ((q).num) ((k)) ?_ 1 ?_ ?_).mono ?_); (exact (h1.belw (((Below.refl _ _).alloc (Nat.le_refl _) _).alloc (by simp) _)).iz); (exact HX.out); (omega); rintro e w2 ⟨rfl, hb2⟩
  have q2 := (((Below.refl _ _).alloc (Nat.le_refl _) _).alloc (by simp) _).trans (hb2.mono (by simp <;> omega))
  replace h := h.belw q2
  replace h1 := h1.belw q2
  replace h'1 := h'1.belw q2
  replace x1a := x1a.b q2
  replace x1b := x1b.b q2
  have x2a : Blk w2 w1.heap.size 46 #[.bool b1, .slice A1 n1 c1] := ((blkAt _ _ _ (by simp)).alloc _).below hb2 (by simp <;> omega)
  have x2b := (blkAt _ _ _ (g := w1.heap.size + 1) (by simp)).below hb2 (by simp)
  have bw2 := bw1.trans (q2.mono bw1.size)
  have lw2 : w1.heap.size + 2 ≤ w2.heap.size := by have := hb2.size; simp at this; omega
  clear q2 bw1
  obtain ⟨cx2aa, cx2ab⟩ := x2a.c2
  obtain ⟨lx2aa, lx2ab, lx2ac, lx2ad⟩ := lts0 x2a.lt
  go_wp2_with fail
  (with_reducible refine (i_root _ b1 A1 n1 c1 ((q).num) ((k)) ?_ (by omega) (.nilIface) HE1.out.1 ((isq (q.num).natAbs : Nat) : Int) HE1.out.2).mono ?_); (exact h1.iz); rintro e w3 ⟨b3, A3, n3, c3, rfl, h3, q3⟩
  clear cx2aa cx2ab lx2aa lx2ab lx2ac lx2ad
  replace h := h.belw q3
  replace h1 := h1.belw q3
  replace h'1 := h'1.belw q3
  replace x1a := x1a.b q3
  replace x1b := x1b.b q3
  replace x2a := x2a.b q3
  replace x2b := x2b.b q3
  have bw3 := bw2.trans (q3.mono bw2.size)
  have lw3 := q3.size
  clear q3 bw2
  obtain ⟨cx2ba, cx2bb⟩ := x2b.c2
  obtain ⟨lx2ba, lx2bb, lx2bc, lx2bd⟩ := lts1 x2b.lt
  go_wp2_with fail
  (with_reducible refine (i_root _ b'1 A'1 n'1 c'1 (((q).den : Int)) ((k)) ?_ (by omega) (.nilIface) HE2.out.1 ((isq ((q.den : Int)).natAbs : Nat) : Int) HE2.out.2).mono ?_); (exact (h'1.belw ((Below.refl _ _).alloc (Nat.le_refl _) _)).iz); rintro e w4 ⟨b4, A4, n4, c4, rfl, h4, hb4⟩
  clear cx2ba cx2bb lx2ba lx2bb lx2bc lx2bd
  have q4 := ((Below.refl _ _).alloc (Nat.le_refl _) _).trans (hb4.mono (by simp))
  replace h := h.belw q4
  replace h1 := h1.belw q4
  replace h'1 := h'1.belw q4
  replace h3 := h3.belw q4
  replace x1a := x1a.b q4
  replace x1b := x1b.b q4
  replace x2a := x2a.b q4
  replace x2b := x2b.b q4
  have x4a : Blk w4 w3.heap.size 46 #[.bool b3, .slice A3 n3 c3] := (blkAt _ _ _ (by simp)).below hb4 (by simp)
  have bw4 := bw3.trans (q4.mono bw3.size)
  have lw4 : w3.heap.size + 1 ≤ w4.heap.size := by have := hb4.size; simp at this; omega
  clear q4 bw3
  go_wp2_with fail
  have p5 := ((Kp.refl w4).alloc (.cells #[.bool b4, .slice A4 n4 c4] 46))
  have bw5 := (bw4.alloc (by first | omega | (simp <;> omega)) (.cells #[.bool b4, .slice A4 n4 c4] 46))
  have x5a : Blk (w4.alloc (.cells #[.bool b4, .slice A4 n4 c4] 46)) w4.heap.size 46 #[.bool b4, .slice A4 n4 c4] := (blkAt _ _ _ (by simp))
  replace x1a := (x1a.alloc (.cells #[.bool b4, .slice A4 n4 c4] 46))
  replace x1b := (x1b.alloc (.cells #[.bool b4, .slice A4 n4 c4] 46))
  replace x2a := (x2a.alloc (.cells #[.bool b4, .slice A4 n4 c4] 46))
  replace x2b := (x2b.alloc (.cells #[.bool b4, .slice A4 n4 c4] 46))
  replace x4a := (x4a.alloc (.cells #[.bool b4, .slice A4 n4 c4] 46))
  have lw5 : w4.heap.size + 1 ≤ (w4.alloc (.cells #[.bool b4, .slice A4 n4 c4] 46)).heap.size := by simp
  generalize hE5 : (w4.alloc (.cells #[.bool b4, .slice A4 n4 c4] 46)) = w5 at p5 bw5 lw5 x5a x1a x1b x2a x2b x4a ⊢
  clear hE5
  replace h := h.keep p5
  replace h1 := h1.keep p5
  replace h'1 := h'1.keep p5
  replace h3 := h3.keep p5
  replace h4 := h4.keep p5
  clear bw4
  obtain ⟨cx2aa, cx2ab⟩ := x2a.c2
  obtain ⟨lx2aa, lx2ab, lx2ac, lx2ad⟩ := lts0 x2a.lt
  obtain ⟨cx4aa, cx4ab⟩ := x4a.c2
  obtain ⟨lx4aa, lx4ab, lx4ac, lx4ad⟩ := lts0 x4a.lt
  refine wp_region_lin (B := w.heap.size) (fr := fun xf => ⟨List.toArray (.agg #[.bool b, .slice A n c, .slice D m e] :: .pointer (some ⟨w.heap.size, 0, none⟩) :: .pointer (some ⟨w.heap.size + 1, 0, none⟩) :: .bool false :: .pointer (some ⟨w1.heap.size, 0, none⟩) :: .pointer (some ⟨w1.heap.size + 1, 0, none⟩) :: .pointer (some ⟨w3.heap.size, 0, none⟩) :: .nilIface :: .pointer (some ⟨w4.heap.size, 0, none⟩) :: .nilIface :: .tuple #[.agg #[.bool b1, .slice A1 n1 c1], .agg #[.bool b'1, .slice A'1 n'1 c'1]] :: .agg #[.bool b, .slice A n c, .slice D m e] :: .tuple #[.agg #[.bool b1, .slice A1 n1 c1], .agg #[.bool b'1, .slice A'1 n'1 c'1]] :: .agg #[.bool b1, .slice A1 n1 c1] :: .agg #[.bool b'1, .slice A'1 n'1 c'1] :: .agg #[.bool b1, .slice A1 n1 c1] :: .int .i64 1 :: .bool false :: undef :: .tuple #[.agg #[.bool b3, .slice A3 n3 c3], .nilIface] :: .agg #[.bool b1, .slice A1 n1 c1] :: .tuple #[.agg #[.bool b3, .slice A3 n3 c3], .nilIface] :: .agg #[.bool b3, .slice A3 n3 c3] :: .nilIface :: .tuple #[.agg #[.bool b4, .slice A4 n4 c4], .nilIface] :: .agg #[.bool b'1, .slice A'1 n'1 c'1] :: .tuple #[.agg #[.bool b4, .slice A4 n4 c4], .nilIface] :: .agg #[.bool b4, .slice A4 n4 c4] :: .nilIface :: xf 0 :: xf 1 :: xf 2 :: xf 3 :: xf 4 :: xf 5 :: xf 6 :: xf 7 :: xf 8 :: xf 9 :: xf 10 :: xf 11 :: xf 12 :: xf 13 :: undef :: undef :: undef :: undef :: []), []⟩) (R := fun i => List.getD ((PEq (.agg #[.bool b3, .slice A3 n3 c3])) :: (PEq (.agg #[.bool b3, .slice A3 n3 c3])) :: (VI ((((isq (q.num).natAbs : Nat) : Int)) * (((isq (q.num).natAbs : Nat) : Int))) ((k) + (k))) :: (PEq (.agg #[.bool b1, .slice A1 n1 c1])) :: (PEq (.int .i64 (-1))) :: (PEq (.bool true)) :: (PEq (.bool true)) :: PAny :: PAny :: PAny :: PAny :: PAny :: PAny :: (PEq (.bool true)) :: []) i (fun _ _ => True)) (es := []) (ow := [⟨w.heap.size, 14, 0, 24, #[.bool b, .slice A n c, .slice D m e], CAny⟩, ⟨w.heap.size + 1, 14, 0, 24, #[.bool false, .slice none 0 0, .slice none 0 0], CAny⟩, ⟨w1.heap.size, 14, 0, 46, #[.bool b1, .slice A1 n1 c1], CAny⟩, ⟨w1.heap.size + 1, 14, 0, 46, #[.bool b'1, .slice A'1 n'1 c'1], CAny⟩, ⟨w3.heap.size, 14, 0, 46, #[.bool b3, .slice A3 n3 c3], CAny⟩, ⟨w4.heap.size, 14, 0, 46, #[.bool b4, .slice A4 n4 c4], CAny⟩]) (x0 := (fun _ => undef)) (by kernel_rfl)
    (each_of ⟨fun _ _ => rfl, fun _ _ => rfl, fun _ _ => rfl, fun _ _ => rfl, fun _ _ => rfl, fun _ _ => rfl, fun _ _ => rfl, fun _ _ => rfl, fun _ _ => rfl, fun _ _ => rfl, fun _ _ => rfl, fun _ _ => rfl, fun _ _ => rfl, fun _ _ => rfl, trivial⟩) (each_of (acyc_from _ 0 (by kernel_rfl))) (AllStab.get _ ⟨stEq _, stEq _, stI _ _, stEq _, stEq _, stEq _, stEq _, stAny, stAny, stAny, stAny, stAny, stAny, stEq _, trivial⟩)
    (fun _ h => nomatch h) (List.forall_mem_cons.2 ⟨scAny, List.forall_mem_cons.2 ⟨scAny, List.forall_mem_cons.2 ⟨scAny, List.forall_mem_cons.2 ⟨scAny, List.forall_mem_cons.2 ⟨scAny, List.forall_mem_cons.2 ⟨scAny, fun _ h => nomatch h⟩⟩⟩⟩⟩⟩) (fun _ h => nomatch h) bw5.size
    (List.forall_mem_cons.2 ⟨⟨x1a, by show w.heap.size ≤ w.heap.size; omega⟩, List.forall_mem_cons.2 ⟨⟨x1b, by show w.heap.size ≤ w.heap.size + 1; omega⟩, List.forall_mem_cons.2 ⟨⟨x2a, by show w.heap.size ≤ w1.heap.size; omega⟩, List.forall_mem_cons.2 ⟨⟨x2b, by show w.heap.size ≤ w1.heap.size + 1; omega⟩, List.forall_mem_cons.2 ⟨⟨x4a, by show w.heap.size ≤ w3.heap.size; omega⟩, List.forall_mem_cons.2 ⟨⟨x5a, by show w.heap.size ≤ w4.heap.size; omega⟩, fun _ h => nomatch h⟩⟩⟩⟩⟩⟩) (ownDist (by simp <;> omega))
    (each_of ⟨?_, ?_, ?_, ?_, ?_, ?_, ?_, ?_, ?_, ?_, ?_, ?_, ?_, ?_, trivial⟩) ?_
  · exact .inl ⟨by simp, by simp, fun xf wq hk hbl hd K hK => by
      have y : Blk wq w3.heap.size 46 #[.bool b3, .slice A3 n3 c3] := hbl _ (List.Mem.tail _ (List.Mem.tail _ (List.Mem.tail _ (List.Mem.tail _ (List.Mem.head _))))) (by simp [Region.binds])
      obtain ⟨hcl0, hcl1⟩ := y.c2
      (try dsimp only)
      go_simp
      exact hK.out (.agg #[.bool b3, .slice A3 n3 c3]) _ rfl (brefl _)⟩
  · exact .inl ⟨by simp, by simp, fun xf wq hk hbl hd K hK => by
      have y : Blk wq w3.heap.size 46 #[.bool b3, .slice A3 n3 c3] := hbl _ (List.Mem.tail _ (List.Mem.tail _ (List.Mem.tail _ (List.Mem.tail _ (List.Mem.head _))))) (by simp [Region.binds])
      obtain ⟨hcl0, hcl1⟩ := y.c2
      (try dsimp only)
      go_simp
      exact hK.out (.agg #[.bool b3, .slice A3 n3 c3]) _ rfl (brefl _)⟩
  · exact .inl ⟨by simp, by simp, fun xf wq hk hbl hd K hK => by
      have dq0 : xf 0 = .agg #[.bool b3, .slice A3 n3 c3] := hd ⟨0, .data⟩ (by simp) rfl
      have dq1 : xf 1 = .agg #[.bool b3, .slice A3 n3 c3] := hd ⟨1, .data⟩ (by simp) rfl
      (try dsimp only); (try simp only [dq0, dq1])
      go_simp
      go_at_call 106
      (with_reducible refine (i_mul _ b3 A3 n3 c3 (((isq (q.num).natAbs : Nat) : Int)) (k) ?_ b3 A3 n3 c3 (((isq (q.num).natAbs : Nat) : Int)) (k) ?_ ?_).mono ?_); (exact (h3.keep hk).iz); (exact (h3.keep hk).iz); (first | omega | decide | assumption); rintro e wr ⟨b7, A7, n7, c7, rfl, h7, hbr⟩
      have hz := hK.out _ _ ⟨b7, A7, n7, c7, rfl, h7⟩ hbr
      simp only [dq0, dq1] at hz
      exact hz⟩
  · exact .inl ⟨by simp, by simp, fun xf wq hk hbl hd K hK => by
      have y : Blk wq w1.heap.size 46 #[.bool b1, .slice A1 n1 c1] := hbl _ (List.Mem.tail _ (List.Mem.tail _ (List.Mem.head _))) (by simp [Region.binds])
      obtain ⟨hcl0, hcl1⟩ := y.c2
      (try dsimp only)
      go_simp
      exact hK.out (.agg #[.bool b1, .slice A1 n1 c1]) _ rfl (brefl _)⟩
  · exact .inl ⟨by simp, by simp, fun xf wq hk hbl hd K hK => by
      obtain ⟨b7, A7, n7, c7, dq2, h7⟩ : VI ((((isq (q.num).natAbs : Nat) : Int)) * (((isq (q.num).natAbs : Nat) : Int))) ((k) + (k)) (xf 2) wq := hd ⟨2, .data⟩ (by simp) rfl
      have dq3 : xf 3 = .agg #[.bool b1, .slice A1 n1 c1] := hd ⟨3, .data⟩ (by simp) rfl
      (try dsimp only); (try simp only [dq2, dq3])
      go_simp
      go_at_call 59
      (with_reducible refine (i_cmp_v2 _ b7 A7 n7 c7 ((((isq (q.num).natAbs : Nat) : Int)) * (((isq (q.num).natAbs : Nat) : Int))) ((k) + (k)) ?_ b1 A1 n1 c1 ((q).num) ((k)) ?_ (-1) HC1.out ?_).mono ?_); (exact h7.iz); (exact (h1.keep hk).iz); (first | omega | assumption); rintro e wr ⟨rfl, hbr⟩
      have hz := hK.out (.int .i64 (-1)) _ rfl hbr
      simp only [dq2, dq3] at hz
      exact hz⟩
  · exact .inl ⟨by simp, by simp, fun xf wq hk hbl hd K hK => by
      have dq4 : xf 4 = .int .i64 (-1) := hd ⟨4, .data⟩ (by simp) rfl
      (try dsimp only); (try simp only [dq4])
      go_simp
      have hz := hK.out (.bool true) _ rfl (brefl _)
      simp only [dq4] at hz
      exact hz⟩
  · exact .inl ⟨by simp, by simp, fun xf wq hk hbl hd K hK => by
      have dq5 : xf 5 = .bool true := hd ⟨5, .data⟩ (by simp) rfl
      (try dsimp only); (try simp only [dq5])
      go_simp
      have hz := hK.out (.bool true) _ rfl (brefl _)
      simp only [dq5] at hz
      exact hz⟩
  · exact .inl ⟨by simp, by simp, fun xf wq hk hbl hd K hK => by
      have dq6 : xf 6 = .bool true := hd ⟨6, .guard⟩ (by simp) rfl
      (try dsimp only); (try simp only [dq6])
      go_simp
      have hz := hK.out undef _ True.intro (brefl _)
      simp only [dq6] at hz
      exact hz⟩
  · exact .inl ⟨by simp, by simp, fun xf wq hk hbl hd K hK => by
      have dq6 : xf 6 = .bool true := hd ⟨6, .guard⟩ (by simp) rfl
      (try dsimp only); (try simp only [dq6])
      go_simp
      have hz := hK.out undef _ True.intro (brefl _)
      simp only [dq6] at hz
      exact hz⟩
  · exact .inl ⟨by simp, by simp, fun xf wq hk hbl hd K hK => by
      have dq6 : xf 6 = .bool true := hd ⟨6, .guard⟩ (by simp) rfl
      (try dsimp only); (try simp only [dq6])
      go_simp
      have hz := hK.out undef _ True.intro (brefl _)
      simp only [dq6] at hz
      exact hz⟩
  · exact .inl ⟨by simp, by simp, fun xf wq hk hbl hd K hK => by
      have dq6 : xf 6 = .bool true := hd ⟨6, .guard⟩ (by simp) rfl
      (try dsimp only); (try simp only [dq6])
      go_simp
      have hz := hK.out undef _ True.intro (brefl _)
      simp only [dq6] at hz
      exact hz⟩
  · exact .inl ⟨by simp, by simp, fun xf wq hk hbl hd K hK => by
      have dq6 : xf 6 = .bool true := hd ⟨6, .guard⟩ (by simp) rfl
      (try dsimp only); (try simp only [dq6])
      go_simp
      have hz := hK.out undef _ True.intro (brefl _)
      simp only [dq6] at hz
      exact hz⟩
  · exact .inl ⟨by simp, by simp, fun xf wq hk hbl hd K hK => by
      have dq6 : xf 6 = .bool true := hd ⟨6, .guard⟩ (by simp) rfl
      (try dsimp only); (try simp only [dq6])
      go_simp
      have hz := hK.out undef _ True.intro (brefl _)
      simp only [dq6] at hz
      exact hz⟩
  · exact .inl ⟨by simp, by simp, fun xf wq hk hbl hd K hK => by
      have dq6 : xf 6 = .bool true := hd ⟨6, .data⟩ (by simp) rfl
      (try dsimp only); (try simp only [dq6])
      go_simp
      have hz := hK.out (.bool true) _ rfl (brefl _)
      simp only [dq6] at hz
      exact hz⟩
  clear cx2aa cx2ab lx2aa lx2ab lx2ac lx2ad cx4aa cx4ab lx4aa lx4ab lx4ac lx4ad
  intro y6 w6 kq6 hbl6 lw6 how hrr hfl hds
  replace h := h.keep kq6
  replace h1 := h1.keep kq6
  replace h'1 := h'1.keep kq6
  replace h3 := h3.keep kq6
  replace h4 := h4.keep kq6
  obtain ⟨_, z6_0, ez, _⟩ := how _ (List.Mem.head _)
  obtain rfl := ez (by simp)
  dsimp only at z6_0
  obtain ⟨_, z6_1, ez, _⟩ := how _ (List.Mem.tail _ (List.Mem.head _))
  obtain rfl := ez (by simp)
  dsimp only at z6_1
  obtain ⟨_, z6_2, ez, _⟩ := how _ (List.Mem.tail _ (List.Mem.tail _ (List.Mem.head _)))
  obtain rfl := ez (by simp)
  dsimp only at z6_2
  obtain ⟨_, z6_3, ez, _⟩ := how _ (List.Mem.tail _ (List.Mem.tail _ (List.Mem.tail _ (List.Mem.head _))))
  obtain rfl := ez (by simp)
  dsimp only at z6_3
  obtain ⟨_, z6_4, ez, _⟩ := how _ (List.Mem.tail _ (List.Mem.tail _ (List.Mem.tail _ (List.Mem.tail _ (List.Mem.head _)))))
  obtain rfl := ez (by simp)
  dsimp only at z6_4
  obtain ⟨_, z6_5, ez, _⟩ := how _ (List.Mem.tail _ (List.Mem.tail _ (List.Mem.tail _ (List.Mem.tail _ (List.Mem.tail _ (List.Mem.head _))))))
  obtain rfl := ez (by simp)
  dsimp only at z6_5
  have ea13 : y6 13 = .bool true := hrr 13 (by simp)
  (try dsimp only)
  simp only [ea13]
  clear hrr hfl how hds ea13
  clear x1a x1b x2a x2b x4a x5a
  have bw6 := bw5.trans hbl6
  clear bw5
  obtain ⟨cz6_1_0, cz6_1_1, cz6_1_2⟩ := z6_1.c3
  obtain ⟨fz6_1_0, fz6_1_1, fz6_1_2⟩ := z6_1.f3
  obtain ⟨lz6_1_0, lz6_1_1, lz6_1_2, lz6_1_3⟩ := lts1 z6_1.lt
  go_wp2_with fail
  refine bodyPost_ret (v := .tuple #[.agg #[.bool false, .slice none 0 0, .slice none 0 0], .bool false]) (by simp [results, Tryz.results47, go_sem, *] <;> first | rfl | exact ⟨rfl, rfl⟩) rfl ?_
  exact ⟨_, _, _, _, _, _, _, rfl, QV.zero _ _, (((bw6.sc (w.heap.size + 1) 0 (by omega) (.bool false)).sc (w.heap.size + 1) 1 (by omega) (.slice none 0 0)).sc (w.heap.size + 1) 2 (by omega) (.slice none 0 0))⟩
theorem f_root (w : World) (b : Bool) (A : Option Addr) (n c : Nat) (D : Option Addr) (m e : Nat) (q : Rat) (k : Nat) (h : QZ w b A n c D m e q k) (h0 : 0 < k) (hk : k ≤ 1000000) (v : Bool) (r : Rat) (hv : rootOk q = v) (hr : rootQ q = r) : Calls Tryz.prog 47 #[.agg #[.bool b, .slice A n c, .slice D m e]] w (RetFe w (.bool v) r k) := by
  subst hv hr
  have hn : q.num.sign = -1 → rootOk q = false := fun e => by
    have := Int.sign_eq_neg_one_iff_neg.1 e
    unfold rootOk
    rw [decide_eq_false (show ¬ 0 ≤ q.num by omega)]; rfl
  have hp : q.num.sign ≠ -1 → 0 ≤ q.num := fun e => by
    rcases Int.lt_trichotomy q.num 0 with x | x | x
    · exact absurd (Int.sign_eq_neg_one_of_neg x) e
    · omega
    · omega
  by_cases h1 : isq q.num.natAbs * isq q.num.natAbs = q.num.natAbs
  · by_cases h2 : isq q.den * isq q.den = q.den
    · have ho : 0 ≤ q.num → rootOk q = true ∧ rootQ q = Rat.divInt ((isq q.num.natAbs : Nat) : Int) ((isq q.den : Nat) : Int) := fun e => by
        have : rootOk q = true := by unfold rootOk; rw [decide_eq_true e, decide_eq_true h1, decide_eq_true h2]; rfl
        exact ⟨this, by unfold rootQ; rw [this]; rfl⟩
      rcases sign3 q.num with s | s | s
      · have := ho (by omega)
        rw [this.1, this.2]
        exact f_root_a0 w b A n c D m e q k h h0 hk (by rw [s]; rfl) h1 h2
      · have := ho (hp (by rw [s]; decide))
        rw [this.1, this.2]
        exact f_root_a1 w b A n c D m e q k h h0 hk s h1 h2
      · have e1 := hn s
        rw [show rootQ q = 0 by unfold rootQ; rw [e1]; rfl, e1]
        exact f_root_n w b A n c D m e q k h h0 hk s
    · have e1 : rootOk q = false := by unfold rootOk; rw [decide_eq_false h2]; exact Bool.and_false _
      rw [show rootQ q = 0 by unfold rootQ; rw [e1]; rfl, e1]
      rcases sign3 q.num with s | s | s
      · exact f_root_b0 w b A n c D m e q k h h0 hk (by rw [s]; rfl) h1 h2
      · exact f_root_b1 w b A n c D m e q k h h0 hk s h1 h2
      · exact f_root_n w b A n c D m e q k h h0 hk s
  · have e1 : rootOk q = false := by unfold rootOk; rw [decide_eq_false h1, Bool.and_false]; rfl
    rw [show rootQ q = 0 by unfold rootQ; rw [e1]; rfl, e1]
    rcases sign3 q.num with s | s | s
    · exact f_root_c0 w b A n c D m e q k h h0 hk (by rw [s]; rfl) h1
    · exact f_root_c1 w b A n c D m e q k h h0 hk s h1
    · exact f_root_n w b A n c D m e q k h h0 hk s
end Go.Proofs.YtkpjhmpjihchpaaGreatDoor

/- Walks: fractions: Grid; roots of the reference. -/
namespace Go.Proofs.YtkpjhmpjihchpaaGreatDoor
open Go Go.RowKit Bn
attribute [local go_sem ↓] Go.wp_at_zero Go.wp_at_succ
theorem Sz_grid {q : Rat} {k t : Nat} (hs : Sz q k) (h0 : 0 < k) (ht : t ≤ 256) : Sz (gridQ q t) (k + 9) := by
  have h1 := Sz_mul hs (Sz_int (two_lt ht) (by omega))
  unfold gridQ
  refine Sz_divInt (Nat.lt_of_le_of_lt ?_ h1.1) (Nat.lt_of_lt_of_le (two_lt ht) (Nat.pow_le_pow_right (by omega) (by omega))) (by omega)
  exact Int.natAbs_ediv_le_natAbs _ _
theorem Sz_pow2 {t : Nat} (ht : t ≤ 256) : Sz ((((2 ^ t : Nat) : Int) : Rat)) 9 := Sz_int (two_lt ht) (by omega)
theorem pow2_q (t : Nat) : Rat.divInt ((2 ^ t : Nat) : Int) 1 = ((((2 ^ t : Nat) : Int)) : Rat) := int_q _
theorem f_grid_ok (w : World) (b : Bool) (A : Option Addr) (n c : Nat) (D : Option Addr) (m e : Nat) (q : Rat) (k : Nat) (h : QZ w b A n c D m e q k) (x : Int) (t : Nat) (hx : x = (t : Int)) (ht : t ≤ 256) (h0 : 0 < k) (hk : k ≤ 1000000) :
    Calls Tryz.prog 46 #[.agg #[.bool b, .slice A n c, .slice D m e], .int .i64 x] w (RetFe w .nilIface (gridQ q t) (k + 9)) := by
  have e1 : (x < 0) = False := by simp; omega
  have e2 : (256 < x) = False := by simp; omega
  have HX := Lib.hid (And.intro hx ht)
  have hsz := h.sz h0
  have HS := Lib.hid (Sz_grid hsz h0 ht)
  clear hsz
  clear hx ht
  go_enter Tryz.func46, Tryz.ntmps46
  go_wp2_with fail
  (with_reducible refine (f_two _ (x) t HX.out.1 HX.out.2).mono ?_); rintro e w1 ⟨b1, A1, n1, c1, rfl, h1, hb1⟩
  have q1 := (((Below.refl _ _).alloc (Nat.le_refl _) _).alloc (by simp) _).trans (hb1.mono (by simp <;> omega))
  replace h := h.belw q1
  have x1a : Blk w1 w.heap.size 24 #[.bool b, .slice A n c, .slice D m e] := ((blkAt _ _ _ (by simp)).alloc _).below hb1 (by simp <;> omega)
  have x1b := (blkAt _ _ _ (g := w.heap.size + 1) (by simp)).below hb1 (by simp)
  have bw1 := (brefl w).trans (q1.mono (brefl w).size)
  have lw1 : w.heap.size + 2 ≤ w1.heap.size := by have := hb1.size; simp at this; omega
  clear q1
  go_wp2_with fail
  have p2 := ((Kp.refl w1).alloc (.cells #[.bool b1, .slice A1 n1 c1] 46))
  have bw2 := (bw1.alloc (by first | omega | (simp <;> omega)) (.cells #[.bool b1, .slice A1 n1 c1] 46))
  have x2a : Blk (w1.alloc (.cells #[.bool b1, .slice A1 n1 c1] 46)) w1.heap.size 46 #[.bool b1, .slice A1 n1 c1] := (blkAt _ _ _ (by simp))
  replace x1a := (x1a.alloc (.cells #[.bool b1, .slice A1 n1 c1] 46))
  replace x1b := (x1b.alloc (.cells #[.bool b1, .slice A1 n1 c1] 46))
  have lw2 : w1.heap.size + 1 ≤ (w1.alloc (.cells #[.bool b1, .slice A1 n1 c1] 46)).heap.size := by simp
  generalize hE2 : (w1.alloc (.cells #[.bool b1, .slice A1 n1 c1] 46)) = w2 at p2 bw2 lw2 x2a x1a x1b ⊢
  clear hE2
  replace h := h.keep p2
  replace h1 := h1.keep p2
  clear bw1
  have cx1aa : w2.cell? ⟨w.heap.size, 0, none⟩ = some (.bool b) := x1a.cell 0
  have cx1ab : w2.cell? ⟨w.heap.size, 1, none⟩ = some (.slice A n c) := x1a.cell 1
  have cx1ac : w2.cell? ⟨w.heap.size, 2, none⟩ = some (.slice D m e) := x1a.cell 2
  obtain ⟨lx1aa, lx1ab, lx1ac, lx1ad⟩ := lts0 x1a.lt
  obtain ⟨cx2aa, cx2ab⟩ := x2a.c2
  obtain ⟨lx2aa, lx2ab, lx2ac, lx2ad⟩ := lts0 x2a.lt
  refine wp_region_lin (B := w.heap.size) (fr := fun xf => ⟨List.toArray (.agg #[.bool b, .slice A n c, .slice D m e] :: .int .i64 x :: .pointer (some ⟨w.heap.size, 0, none⟩) :: undef :: .pointer (some ⟨w.heap.size + 1, 0, none⟩) :: xf 9 :: .pointer (some ⟨w1.heap.size, 0, none⟩) :: .int .i64 x :: .bool false :: .bool false :: .int .i64 x :: .bool false :: .bool false :: undef :: undef :: .int .i64 x :: .agg #[.bool b1, .slice A1 n1 c1] :: xf 0 :: xf 1 :: xf 2 :: xf 3 :: xf 4 :: xf 5 :: xf 6 :: xf 7 :: []), []⟩) (R := fun ri => List.getD ((PEq (.agg #[.bool b, .slice A n c, .slice D m e])) :: (PEq (.agg #[.bool b1, .slice A1 n1 c1])) :: (VI (1) (1)) :: (VQ (((((2 ^ t : Nat) : Int)) : Rat)) (9)) :: (VQ ((q) * (((((2 ^ t : Nat) : Int)) : Rat))) ((k) + (9))) :: (VI (floorQ (((q) * (((((2 ^ t : Nat) : Int)) : Rat))))) (((k) + (9)) + ((k) + (9)))) :: (PEq (.agg #[.bool b1, .slice A1 n1 c1])) :: (VQ (gridQ q t) (k + 9)) :: PAny :: (PEq (.nilIface)) :: []) ri (fun _ _ => True)) (es := []) (ow := [⟨w.heap.size, 10, 0, 24, #[.bool b, .slice A n c, .slice D m e], CAny⟩, ⟨w.heap.size + 1, 8, 0, 24, #[.bool false, .slice none 0 0, .slice none 0 0], CQ (gridQ q t) (k + 9)⟩, ⟨w1.heap.size, 10, 0, 46, #[.bool b1, .slice A1 n1 c1], CAny⟩]) (x0 := (upd (fun _ => undef) 9 (.nilIface))) (by kernel_rfl)
    (each_of ⟨fun _ _ => rfl, fun _ _ => rfl, fun _ _ => rfl, fun _ _ => rfl, fun _ _ => rfl, fun _ _ => rfl, fun _ _ => rfl, fun _ _ => rfl, fun _ _ => rfl, fun _ _ => rfl, trivial⟩) (each_of (acyc_from _ 0 (by kernel_rfl))) (AllStab.get _ ⟨stEq _, stEq _, stI _ _, stQ _ _, stQ _ _, stI _ _, stEq _, stQ _ _, stAny, stEq _, trivial⟩)
    (fun _ h => nomatch h) (List.forall_mem_cons.2 ⟨scAny, List.forall_mem_cons.2 ⟨scQ _ _, List.forall_mem_cons.2 ⟨scAny, fun _ h => nomatch h⟩⟩⟩) (fun _ h => nomatch h) bw2.size
    (List.forall_mem_cons.2 ⟨⟨x1a, by show w.heap.size ≤ w.heap.size; omega⟩, List.forall_mem_cons.2 ⟨⟨x1b, by show w.heap.size ≤ w.heap.size + 1; omega⟩, List.forall_mem_cons.2 ⟨⟨x2a, by show w.heap.size ≤ w1.heap.size; omega⟩, fun _ h => nomatch h⟩⟩⟩) (ownDist (by simp <;> omega))
    (each_of ⟨?_, ?_, ?_, ?_, ?_, ?_, ?_, ?_, ?_, ?_, trivial⟩) ?_
  · exact .inl ⟨by simp, by simp, fun xf wq hk hbl hd K hK => by
      have y : Blk wq w.heap.size 24 #[.bool b, .slice A n c, .slice D m e] := hbl _ (List.Mem.head _) (by simp [Region.binds])
      obtain ⟨hcl0, hcl1, hcl2⟩ := y.c3
      (try dsimp only)
      go_simp
      exact hK.out (.agg #[.bool b, .slice A n c, .slice D m e]) _ rfl (brefl _)⟩
  · exact .inl ⟨by simp, by simp, fun xf wq hk hbl hd K hK => by
      have y : Blk wq w1.heap.size 46 #[.bool b1, .slice A1 n1 c1] := hbl _ (List.Mem.tail _ (List.Mem.tail _ (List.Mem.head _))) (by simp [Region.binds])
      obtain ⟨hcl0, hcl1⟩ := y.c2
      (try dsimp only)
      go_simp
      exact hK.out (.agg #[.bool b1, .slice A1 n1 c1]) _ rfl (brefl _)⟩
  · exact .inl ⟨by simp, by simp, fun xf wq hk hbl hd K hK => by
      (try dsimp only)
      go_simp
      go_at_call 90
      (with_reducible refine (f_one _).mono ?_); rintro e wr ⟨b4, A4, n4, c4, rfl, h4, hbr⟩
      exact hK.out _ _ ⟨b4, A4, n4, c4, rfl, h4⟩ hbr⟩
  · exact .inl ⟨by simp, by simp, fun xf wq hk hbl hd K hK => by
      have dq1 : xf 1 = .agg #[.bool b1, .slice A1 n1 c1] := hd ⟨1, .data⟩ (by simp) rfl
      obtain ⟨b4, A4, n4, c4, dq2, h4⟩ : VI (1) (1) (xf 2) wq := hd ⟨2, .data⟩ (by simp) rfl
      (try dsimp only); (try simp only [dq1, dq2])
      go_simp
      go_at_call 89
      (with_reducible refine (f_form _ b1 A1 n1 c1 (((2 ^ t : Nat) : Int)) (9) ?_ b4 A4 n4 c4 (1) (1) ?_ ((((2 ^ t : Nat) : Int)) : Rat) 9 ?_ ?_ ?_ ?_).mono ?_); (exact (h1.keep hk).iz); (exact h4.iz); (decide); (exact pow2_q t); (exact Sz_pow2 HX.out.2); (omega); rintro e wr ⟨b5, A5, n5, c5, A'5, n'5, c'5, rfl, h5, hbr⟩
      have hz := hK.out _ _ ⟨b5, A5, n5, c5, A'5, n'5, c'5, rfl, h5⟩ hbr
      simp only [dq1, dq2] at hz
      exact hz⟩
  · exact .inl ⟨by simp, by simp, fun xf wq hk hbl hd K hK => by
      have dq0 : xf 0 = .agg #[.bool b, .slice A n c, .slice D m e] := hd ⟨0, .data⟩ (by simp) rfl
      obtain ⟨b5, A5, n5, c5, A'5, n'5, c'5, dq3, h5⟩ : VQ (((((2 ^ t : Nat) : Int)) : Rat)) (9) (xf 3) wq := hd ⟨3, .data⟩ (by simp) rfl
      (try dsimp only); (try simp only [dq0, dq3])
      go_simp
      go_at_call 43
      (with_reducible refine (f_mul _ b A n c D m e (q) (k) ?_ b5 A5 n5 c5 A'5 n'5 c'5 (((((2 ^ t : Nat) : Int)) : Rat)) (9) ?_ ?_ ?_ ?_ ?_).mono ?_); (exact (h.keep hk)); (exact h5.qz); (first | omega | decide | assumption); (first | omega | decide | assumption); (first | omega | decide | assumption); (first | omega | decide | assumption); rintro e wr ⟨b6, A6, n6, c6, A'6, n'6, c'6, rfl, h6, hbr⟩
      have hz := hK.out _ _ ⟨b6, A6, n6, c6, A'6, n'6, c'6, rfl, h6⟩ hbr
      simp only [dq0, dq3] at hz
      exact hz⟩
  · exact .inl ⟨by simp, by simp, fun xf wq hk hbl hd K hK => by
      obtain ⟨b6, A6, n6, c6, A'6, n'6, c'6, dq4, h6⟩ : VQ ((q) * (((((2 ^ t : Nat) : Int)) : Rat))) ((k) + (9)) (xf 4) wq := hd ⟨4, .data⟩ (by simp) rfl
      (try dsimp only); (try simp only [dq4])
      go_simp
      go_at_call 51
      (with_reducible refine (f_floor _ b6 A6 n6 c6 A'6 n'6 c'6 ((q) * (((((2 ^ t : Nat) : Int)) : Rat))) ((k) + (9)) ?_ ?_ ?_).mono ?_); (exact h6.qz); (omega); (omega); rintro e wr ⟨b7, A7, n7, c7, rfl, h7, hbr⟩
      have hz := hK.out _ _ ⟨b7, A7, n7, c7, rfl, h7⟩ hbr
      simp only [dq4] at hz
      exact hz⟩
  · exact .inl ⟨by simp, by simp, fun xf wq hk hbl hd K hK => by
      have y : Blk wq w1.heap.size 46 #[.bool b1, .slice A1 n1 c1] := hbl _ (List.Mem.tail _ (List.Mem.tail _ (List.Mem.head _))) (by simp [Region.binds])
      obtain ⟨hcl0, hcl1⟩ := y.c2
      (try dsimp only)
      go_simp
      exact hK.out (.agg #[.bool b1, .slice A1 n1 c1]) _ rfl (brefl _)⟩
  · exact .inl ⟨by simp, by simp, fun xf wq hk hbl hd K hK => by
      obtain ⟨b7, A7, n7, c7, dq5, h7⟩ : VI (floorQ (((q) * (((((2 ^ t : Nat) : Int)) : Rat))))) (((k) + (9)) + ((k) + (9))) (xf 5) wq := hd ⟨5, .data⟩ (by simp) rfl
      have dq6 : xf 6 = .agg #[.bool b1, .slice A1 n1 c1] := hd ⟨6, .data⟩ (by simp) rfl
      (try dsimp only); (try simp only [dq5, dq6])
      go_simp
      go_at_call 89
      (with_reducible refine (f_form _ b7 A7 n7 c7 (floorQ (((q) * (((((2 ^ t : Nat) : Int)) : Rat))))) (((k) + (9)) + ((k) + (9))) ?_ b1 A1 n1 c1 (((2 ^ t : Nat) : Int)) (9) ?_ (gridQ q t) (k + 9) ?_ ?_ ?_ ?_).mono ?_); (exact h7.iz); (exact (h1.keep hk).iz); (exact two_ne t); (rfl); (exact HS.out); (omega); rintro e wr ⟨b8, A8, n8, c8, A'8, n'8, c'8, rfl, h8, hbr⟩
      have hz := hK.out _ _ ⟨b8, A8, n8, c8, A'8, n'8, c'8, rfl, h8⟩ hbr
      simp only [dq5, dq6] at hz
      exact hz⟩
  · exact .inr (.inr (.inr ⟨⟨w.heap.size + 1, 8, 0, 24, #[.bool false, .slice none 0 0, .slice none 0 0], CQ (gridQ q t) (k + 9)⟩, by simp, rfl, by simp, by simp, (show KT 24 = false by decide), fun _ _ => True.intro, fun xf wq hblk hd => by
      obtain ⟨b8, A8, n8, c8, A'8, n'8, c'8, dq7, h8⟩ : VQ (gridQ q t) (k + 9) (xf 7) wq := hd ⟨7, .data⟩ (by simp) rfl
      dsimp only at hblk
      refine ⟨[.bool b8, .slice A8 n8 c8, .slice A'8 n'8 c'8], fun w' hk => ⟨b8, A8, n8, c8, A'8, n'8, c'8, rfl, h8.keep hk⟩, fun K hK => ?_⟩
      have hc0 : wq.cell? ⟨w.heap.size + 1, 0, none⟩ = some (.bool false) := hblk.cell 0
      have hc1 : wq.cell? ⟨w.heap.size + 1, 1, none⟩ = some (.slice none 0 0) := hblk.cell 1
      have hc2 : wq.cell? ⟨w.heap.size + 1, 2, none⟩ = some (.slice none 0 0) := hblk.cell 2
      have hf0 : wq.frozen? ⟨w.heap.size + 1, 0, none⟩ = false := hblk.frozen 0
      have hf1 : wq.frozen? ⟨w.heap.size + 1, 1, none⟩ = false := hblk.frozen 1
      have hf2 : wq.frozen? ⟨w.heap.size + 1, 2, none⟩ = false := hblk.frozen 2
      (try dsimp only)
      simp only [dq7]
      go_simp
      have hz := hK.out undef
      simp only [dq7] at hz
      exact hz⟩))
  · exact .inl ⟨by simp, by simp, fun xf wq hk hbl hd K hK => by
      (try dsimp only)
      go_simp
      exact hK.out (.nilIface) _ rfl (brefl _)⟩
  clear cx1aa cx1ab cx1ac lx1aa lx1ab lx1ac lx1ad cx2aa cx2ab lx2aa lx2ab lx2ac lx2ad
  intro y3 w3 kq3 hbl3 lw3 how hrr hfl hds
  replace h := h.keep kq3
  replace h1 := h1.keep kq3
  obtain ⟨_, z3_0, ez, _⟩ := how _ (List.Mem.head _)
  obtain rfl := ez (by simp)
  dsimp only at z3_0
  obtain ⟨_, z3_1, _, ez⟩ := how _ (List.Mem.tail _ (List.Mem.head _))
  obtain ⟨b8, A8, n8, c8, A'8, n'8, c'8, rfl, h8⟩ := ez (by simp)
  dsimp only at z3_1
  obtain ⟨_, z3_2, ez, _⟩ := how _ (List.Mem.tail _ (List.Mem.tail _ (List.Mem.head _)))
  obtain rfl := ez (by simp)
  dsimp only at z3_2
  have ea9 : y3 9 = .nilIface := hrr 9 (by simp)
  (try dsimp only)
  simp only [ea9]
  clear hrr hfl how hds ea9
  clear x1a x1b x2a
  have bw3 := bw2.trans hbl3
  clear bw2
  have cz3_1_0 : w3.cell? ⟨w.heap.size + 1, 0, none⟩ = some (.bool b8) := z3_1.cell 0
  have cz3_1_1 : w3.cell? ⟨w.heap.size + 1, 1, none⟩ = some (.slice A8 n8 c8) := z3_1.cell 1
  have cz3_1_2 : w3.cell? ⟨w.heap.size + 1, 2, none⟩ = some (.slice A'8 n'8 c'8) := z3_1.cell 2
  obtain ⟨lz3_1_0, lz3_1_1, lz3_1_2, lz3_1_3⟩ := lts1 z3_1.lt
  go_wp2_with fail
  refine bodyPost_ret (v := .tuple #[.agg #[.bool b8, .slice A8 n8 c8, .slice A'8 n'8 c'8], .nilIface]) (by simp [results, Tryz.results46, go_sem, *] <;> first | rfl | exact ⟨rfl, rfl⟩) rfl ?_
  exact ⟨_, _, _, _, _, _, _, rfl, (h8).keep (Kp.refl w3), bw3⟩
end Go.Proofs.YtkpjhmpjihchpaaGreatDoor

/- Texts read as numbers: what the library's functions give on digits. Plain. -/
namespace Bn
open Go.Lib
theorem digitVal_dg {c : UInt8} (h : isDg c = true) : digitVal c = some (dval c) := by
  unfold isDg at h
  rw [Bool.and_eq_true, decide_eq_true_eq, decide_eq_true_eq] at h
  unfold digitVal dval
  rw [if_pos h]
theorem decFrom_dg : ∀ {l : List UInt8}, l.all isDg = true → ∀ acc, decFrom acc l = some (l.foldl (fun a c => a * 10 + dval c) acc) := by
  intro l
  induction l with
  | nil => intro _ acc; rfl
  | cons x r ih =>
    intro h acc
    rw [List.all_cons, Bool.and_eq_true] at h
    rw [decFrom, digitVal_dg h.1, List.foldl_cons]
    exact ih h.2 _
theorem atoi_dec {l : List UInt8} (h : l.all isDg = true) (h0 : l ≠ []) : atoi l = some (decVal l : Int) := by
  cases l with
  | nil => exact absurd rfl h0
  | cons x r =>
    have hx : isDg x = true := by rw [List.all_cons, Bool.and_eq_true] at h; exact h.1
    have h1 : (x == 45) = false := by
      apply Bool.eq_false_iff.2
      intro e
      rw [beq_iff_eq] at e
      subst e
      exact absurd hx (by decide)
    have h2 : (x == 43) = false := by
      apply Bool.eq_false_iff.2
      intro e
      rw [beq_iff_eq] at e
      subst e
      exact absurd hx (by decide)
    unfold atoi
    dsimp only
    rw [h1, h2]
    simp only [Bool.false_eq_true, if_false]
    unfold decNat
    rw [if_neg (by simp), decFrom_dg h]
    rfl
def digs10 : List UInt8 := [48, 49, 50, 51, 52, 53, 54, 55, 56, 57]
theorem contains_dg (c : UInt8) : digs10.contains c = isDg c := by
  have h : ∀ v : Fin 256, digs10.contains (UInt8.ofNat v) = isDg (UInt8.ofNat v) := by decide +kernel
  have := h ⟨c.toNat, c.toNat_lt⟩
  simpa using this
theorem dropWhile_nil {p : UInt8 → Bool} : ∀ {l : List UInt8}, l.dropWhile p = [] ↔ l.all p = true := by
  intro l
  induction l with
  | nil => simp
  | cons x r ih =>
    by_cases h : p x = true
    · rw [List.dropWhile_cons_of_pos h, ih, List.all_cons, h]; simp
    · rw [List.dropWhile_cons_of_neg h]; simp [h]
theorem dropWhile_head {p : UInt8 → Bool} : ∀ {l : List UInt8} {x : UInt8} {r : List UInt8}, l.dropWhile p = x :: r → p x = false := by
  intro l
  induction l with
  | nil => intro x r h; simp at h
  | cons y s ih =>
    intro x r h
    by_cases hy : p y = true
    · rw [List.dropWhile_cons_of_pos hy] at h; exact ih h
    · rw [List.dropWhile_cons_of_neg hy] at h
      injection h with h1 h2
      subst h1
      simpa using hy
theorem trim_dg {l : List UInt8} : trimS l digs10 = [] ↔ l.all isDg = true := by
  have hp : (fun b => digs10.contains b) = isDg := funext contains_dg
  unfold trimS trimLeftS trimRightS
  rw [hp]
  rw [dropWhile_nil, List.all_reverse]
  constructor
  · intro h
    cases hd : l.reverse.dropWhile isDg with
    | nil => have := dropWhile_nil.1 hd; rw [List.all_reverse] at this; exact this
    | cons x r =>
      rw [hd, List.all_cons, Bool.and_eq_true] at h
      rw [dropWhile_head hd] at h
      exact absurd h.1 (by simp)
  · intro h
    rw [dropWhile_nil.2 (by rw [List.all_reverse]; exact h)]
    rfl
theorem hasPrefix_m (l : List UInt8) : hasPrefix l [45] = headM l := by
  unfold hasPrefix headM
  cases l with
  | nil => rfl
  | cons x r =>
    by_cases h : x = 45
    · subst h; rfl
    · have e : (45 == x) = false := by simp; exact fun e => h e.symm
      simp only [List.isPrefixOf, e, Bool.false_and]
      split
      · rename_i h1; injection h1 with h2; exact absurd h2 h
      · rfl
theorem trimPrefix_m (l : List UInt8) : trimPrefix l [45] = tailS l := by
  unfold trimPrefix
  rw [hasPrefix_m]
  unfold headM tailS
  split
  · rename_i r
    rfl
  · rfl
theorem tailS_len (l : List UInt8) : (tailS l).length ≤ l.length := by
  unfold tailS; split <;> simp
theorem len_ten (k : Nat) : 10 ^ k ≤ 4294967296 ^ k := Nat.pow_le_pow_left (by omega) k
theorem decVal_words {l : List UInt8} (h : l.all isDg = true) : decVal l < 4294967296 ^ l.length := Nat.lt_of_lt_of_le (decVal_lt h) (len_ten _)
theorem all_take {l : List UInt8} {p : UInt8 → Bool} (h : l.all p = true) (k : Nat) : (l.take k).all p = true := by
  rw [List.all_eq_true] at h ⊢
  exact fun x hx => h x (List.mem_of_mem_take hx)
theorem all_drop {l : List UInt8} {p : UInt8 → Bool} (h : l.all p = true) (k : Nat) : (l.drop k).all p = true := by
  rw [List.all_eq_true] at h ⊢
  exact fun x hx => h x (List.mem_of_mem_drop hx)
def GrpI (t pre rest : List UInt8) : Prop := t = pre ++ rest ∧ (pre = [] ∨ rest.length % 9 = 0)
theorem GrpI.step {t pre rest : List UInt8} {n : Nat} (h : GrpI t pre rest) (h0 : 0 < rest.length) (hn : (rest.length - 1) % 9 + 1 = n) :
    n ≤ rest.length ∧ n ≤ 9 ∧ 0 < n ∧ GrpI t (pre ++ rest.take n) (rest.drop n) ∧ decVal (pre ++ rest.take n) = decVal pre * 1000000000 + decVal (rest.take n) := by
  have h1 : n ≤ rest.length := by have := Nat.mod_le (rest.length - 1) 9; omega
  refine ⟨h1, by have := Nat.mod_lt (rest.length - 1) (show 0 < 9 by omega); omega, by omega, ⟨?_, ?_⟩, ?_⟩
  · rw [List.append_assoc, List.take_append_drop]; exact h.1
  · right; rw [List.length_drop]; omega
  · rw [decVal_app, List.length_take, Nat.min_eq_left h1]
    rcases h.2 with e | e
    · subst e; simp [decVal]
    · have : n = 9 := by omega
      subst this; rfl
theorem GrpI.start (t : List UInt8) : GrpI t [] t := ⟨rfl, .inl rfl⟩
theorem GrpI.fin {t pre : List UInt8} (h : GrpI t pre []) : pre = t := by have := h.1; rw [List.append_nil] at this; exact this.symm
theorem okZ_parts {l : List UInt8} (h : okZ l = true) : tailS l ≠ [] ∧ (tailS l).all isDg = true ∧ ¬ ((tailS l).head? = some 48 ∧ (1 < (tailS l).length ∨ headM l = true)) := by
  unfold okZ at h
  simp at h
  refine ⟨h.1.1, by simpa using h.1.2, fun ⟨a, b⟩ => ?_⟩
  rcases h.2 with e | e
  · exact e a
  · rcases b with b | b
    · omega
    · rw [b] at e; exact absurd e.2 (by simp)
theorem okZ_not {l : List UInt8} (h : okZ l = false) : tailS l = [] ∨ (tailS l ≠ [] ∧ (tailS l).all isDg = false) ∨ (tailS l ≠ [] ∧ (tailS l).all isDg = true ∧ (tailS l).head? = some 48 ∧ (1 < (tailS l).length ∨ headM l = true)) := by
  by_cases h0 : tailS l = []
  · exact .inl h0
  · right
    cases h1 : (tailS l).all isDg
    · exact .inl ⟨h0, rfl⟩
    · refine .inr ⟨h0, rfl, ?_⟩
      unfold okZ at h
      rw [h1] at h
      simp [h0] at h
      refine ⟨h.1, ?_⟩
      by_cases h2 : 1 < (tailS l).length
      · exact .inl h2
      · exact .inr (h.2 (by omega))
end Bn

/- Texts of fractions: what reading one gives. Plain. -/
namespace Bn
open Go.Lib
def decOk (F B : List UInt8) : Bool := okZ (tailS F) && decide (0 ≤ valZ (tailS F)) && decide (B ≠ []) && B.all isDg
def decN (F B : List UInt8) : Int := valZ (tailS F) * 10 ^ B.length + decVal B
def decQ (F B : List UInt8) : Rat := Rat.divInt (if headM F then -(decN F B) else decN F B) (10 ^ B.length)
def quoOk (F B : List UInt8) : Bool := okZ F && okZ B && decide (0 < valZ B) && decide (valZ B ≠ 1) && decide (Nat.gcd (valZ F).natAbs (valZ B).natAbs = 1)
inductive FracOut (s : List UInt8) (x : Int) (q : Rat) : Prop
  | big (h : 65536 < s.length) (hx : x = 4) (hq : q = 0)
  | dot (F B : List UInt8) (hl : s.length ≤ 65536) (hs : s = F ++ 46 :: B) (hF : 46 ∉ F) (h64 : s.length ≤ 64) (h : decOk F B = true) (hx : x = 0) (hq : q = decQ F B)
  | dotNo (F B : List UInt8) (hl : s.length ≤ 65536) (hs : s = F ++ 46 :: B) (hF : 46 ∉ F) (h : 64 < s.length ∨ decOk F B = false) (hx : x = 2) (hq : q = 0)
  | quo (F B : List UInt8) (hl : s.length ≤ 65536) (hd : 46 ∉ s) (hs : s = F ++ 47 :: B) (hF : 47 ∉ F) (h : quoOk F B = true) (hx : x = 0) (hq : q = Rat.divInt (valZ F) (valZ B))
  | quoNo (F B : List UInt8) (hl : s.length ≤ 65536) (hd : 46 ∉ s) (hs : s = F ++ 47 :: B) (hF : 47 ∉ F) (h : quoOk F B = false) (hx : x = 2) (hq : q = 0)
  | whole (hl : s.length ≤ 65536) (hd : 46 ∉ s) (hs : 47 ∉ s) (h : okZ s = true) (hx : x = 0) (hq : q = ((valZ s : Int) : Rat))
  | wholeNo (hl : s.length ≤ 65536) (hd : 46 ∉ s) (hs : 47 ∉ s) (h : okZ s = false) (hx : x = 2) (hq : q = 0)
theorem decOk_parts {F B : List UInt8} (h : decOk F B = true) : okZ (tailS F) = true ∧ 0 ≤ valZ (tailS F) ∧ B ≠ [] ∧ B.all isDg = true := by
  unfold decOk at h
  rw [Bool.and_eq_true, Bool.and_eq_true, Bool.and_eq_true, decide_eq_true_eq, decide_eq_true_eq] at h
  exact ⟨h.1.1.1, h.1.1.2, h.1.2, h.2⟩
theorem decOk_not {F B : List UInt8} (h : decOk F B = false) : okZ (tailS F) = false ∨ (okZ (tailS F) = true ∧ valZ (tailS F) < 0) ∨ (okZ (tailS F) = true ∧ 0 ≤ valZ (tailS F) ∧ B = []) ∨ (okZ (tailS F) = true ∧ 0 ≤ valZ (tailS F) ∧ B ≠ [] ∧ B.all isDg = false) := by
  cases h1 : okZ (tailS F)
  · exact .inl rfl
  · right
    by_cases h2 : 0 ≤ valZ (tailS F)
    · right
      by_cases h3 : B = []
      · exact .inl ⟨rfl, h2, h3⟩
      · right
        cases h4 : B.all isDg
        · exact ⟨rfl, h2, h3, rfl⟩
        · exfalso
          unfold decOk at h
          rw [h1, h4] at h
          simp [h2, h3] at h
    · exact .inl ⟨rfl, by omega⟩
theorem quoOk_parts {F B : List UInt8} (h : quoOk F B = true) : okZ F = true ∧ okZ B = true ∧ 0 < valZ B ∧ valZ B ≠ 1 ∧ Nat.gcd (valZ F).natAbs (valZ B).natAbs = 1 := by
  unfold quoOk at h
  rw [Bool.and_eq_true, Bool.and_eq_true, Bool.and_eq_true, Bool.and_eq_true, decide_eq_true_eq, decide_eq_true_eq, decide_eq_true_eq] at h
  exact ⟨h.1.1.1.1, h.1.1.1.2, h.1.1.2, h.1.2, h.2⟩
theorem quoOk_not {F B : List UInt8} (h : quoOk F B = false) : okZ F = false ∨ (okZ F = true ∧ okZ B = false) ∨ (okZ F = true ∧ okZ B = true ∧ valZ B ≤ 0) ∨ (okZ F = true ∧ okZ B = true ∧ 0 < valZ B ∧ valZ B = 1) ∨ (okZ F = true ∧ okZ B = true ∧ 0 < valZ B ∧ valZ B ≠ 1 ∧ Nat.gcd (valZ F).natAbs (valZ B).natAbs ≠ 1) := by
  cases h1 : okZ F
  · exact .inl rfl
  · right
    cases h2 : okZ B
    · exact .inl ⟨rfl, rfl⟩
    · right
      by_cases h3 : valZ B ≤ 0
      · exact .inl ⟨rfl, rfl, h3⟩
      · right
        by_cases h4 : valZ B = 1
        · exact .inl ⟨rfl, rfl, by omega, h4⟩
        · refine .inr ⟨rfl, rfl, by omega, h4, fun h5 => ?_⟩
          unfold quoOk at h
          rw [h1, h2] at h
          simp [h4, h5] at h
          omega
end Bn

/- Walks: integer.Parse. -/
namespace Go.Proofs.YtkpjhmpjihchpaaGreatDoor
open Go Go.RowKit Bn

theorem toList_v (l : List UInt8) : (⟨l.toArray⟩ : ByteArray).toList = l := by rw [Lib.toList_data]
theorem size_v (l : List UInt8) : (⟨l.toArray⟩ : ByteArray).size = l.length := rfl
theorem ext_v (l : List UInt8) (a b : Nat) : (⟨l.toArray⟩ : ByteArray).extract a b = ⟨((l.drop a).take (b - a)).toArray⟩ := by
  apply ByteArray.ext
  rw [ByteArray.data_extract]
  simp
theorem prefix_v (w : World) (l : List UInt8) (m : Bool) (hm : headM l = m) : Calls Tryz.prog 140 #[strV l, .string ⟨#[45]⟩] w (RetV w (.bool m)) := by
  subst hm
  refine (Tryz.strings_HasPrefix ⟨l.toArray⟩ ⟨#[45]⟩ w).mono fun e w' ⟨he, hw⟩ => ⟨?_, hw ▸ brefl _⟩
  rw [he]
  exact congrArg (fun x => Ending.returned (.bool x)) (hasPrefix_m l)
theorem tprefix_v (w : World) (l t : List UInt8) (ht : tailS l = t) : Calls Tryz.prog 141 #[strV l, .string ⟨#[45]⟩] w (RetV w (strV t)) := by
  subst ht
  refine (Tryz.strings_TrimPrefix ⟨l.toArray⟩ ⟨#[45]⟩ w).mono fun e w' ⟨he, hw⟩ => ⟨?_, hw ▸ brefl _⟩
  rw [he]
  exact congrArg (fun x : List UInt8 => Ending.returned (strV x)) (trimPrefix_m l)
theorem trim_v (w : World) (t x : List UInt8) (hn : t.length ≤ 1000000) (hx : Lib.trimS t digs10 = x) : Calls Tryz.prog 142 #[strV t, .string ⟨#[48, 49, 50, 51, 52, 53, 54, 55, 56, 57]⟩] w (RetV w (strV x)) := by
  subst hx
  exact Any.strings_Trim_laid Tryz.lays160 (by kernel_rfl) ⟨t.toArray⟩ ⟨#[48, 49, 50, 51, 52, 53, 54, 55, 56, 57]⟩ w (by show t.length ≤ _; omega) (by decide) (ascii_of_all (by decide))
theorem atoi_v (w : World) (t : List UInt8) (x : Nat) (hn : t.length ≤ 9) (h0 : t ≠ []) (ha : t.all isDg = true) (hx : decVal t = x) : Calls Tryz.prog 143 #[strV t] w (RetV w (.tuple #[.int .i64 (x : Nat), .nilIface])) := by
  subst hx
  refine (Tryz.strconv_Atoi ⟨t.toArray⟩ (decVal t : Nat) (by show t.length ≤ 18; omega) (atoi_dec ha h0) w).mono fun e w' ⟨he, t, hw⟩ => ⟨he, ?_⟩
  rw [hw]
  exact ⟨rfl, rfl, rfl, by rw [Lib.bytesWorld_size]; omega, fun j hj => Lib.bytesWorld_at_old _ _ _ j hj⟩
theorem i_parse_big (w : World) (l : List UInt8) (hl : 65536 < l.length) :
  Calls Tryz.prog 102 #[strV l] w (RetIe w (.iface 77 (.int .i64 4)) 0 0) := by
 have hsz := size_v l
 go_enter Tryz.func102, Tryz.ntmps102
 go_wp2
 refine bodyPost_ret (v := .tuple #[.agg #[.bool false, .slice none 0 0], .iface 77 (.int .i64 4)]) (by simp [results, Tryz.results102, go_sem, *] <;> first | rfl | exact ⟨rfl, rfl⟩) rfl ?_
 exact ⟨_, _, _, _, rfl, IV.zero _ _, ((brefl w).alloc (Nat.le_refl _) _)⟩
theorem i_parse_bad (w : World) (l : List UInt8) (hl : l.length ≤ 65536) (hb : okZ l = false) :
  Calls Tryz.prog 102 #[strV l] w (RetIe w (.iface 77 (.int .i64 2)) 0 0) := by
 have hsz := size_v l
 have htl := tailS_len l
 obtain ⟨m, hm⟩ : ∃ m, headM l = m := ⟨_, rfl⟩
 obtain ⟨t, ht⟩ : ∃ t, tailS l = t := ⟨_, rfl⟩
 have hn := okZ_not hb
 rw [hm, ht] at hn
 rw [ht] at htl
 have HM := Lib.hid (And.intro hm ht)
 have b0 : Below w.heap.size w (w.alloc (.cells #[.bool false, .slice none 0 0] 46)) := (brefl w).alloc (Nat.le_refl _) _
 have x0 : Blk (w.alloc (.cells #[.bool false, .slice none 0 0] 46)) w.heap.size 46 #[.bool false, .slice none 0 0] := blkAt _ _ _ rfl
 clear hb hm ht
 rcases hn with h | ⟨h0, h1⟩ | ⟨h0, h1, h2, h3⟩
 ·subst h
  have htl0 := toList_v []
  go_enter Tryz.func102, Tryz.ntmps102
  go_wp2_with (first
   | (go_at_call 140; (with_reducible refine (prefix_v _ l _ HM.out.1).mono ?_); rintro e w1 ⟨rfl, hb1⟩; have b1 := b0.trans (hb1.mono b0.size); have x1 := x0.below hb1 x0.lt)
   | (go_at_call 141; (with_reducible refine (tprefix_v _ l _ HM.out.2).mono ?_); rintro e w2 ⟨rfl, hb2⟩; have b2 := b1.trans (hb2.mono b1.size); have x2 := x1.below hb2 x1.lt; obtain ⟨c0, c1⟩ := x2.c2; obtain ⟨f0, f1⟩ := x2.f2))
  refine bodyPost_ret (v := .tuple #[.agg #[.bool false, .slice none 0 0], .iface 77 (.int .i64 2)]) (by simp [results, Tryz.results102, go_sem, *] <;> first | rfl | exact ⟨rfl, rfl⟩) rfl ?_
  exact ⟨_, _, _, _, rfl, IV.zero _ _, (b2.setCell (by dsimp only; omega) _).setCell (by dsimp only; omega) _⟩
 ·obtain ⟨c, r, rfl⟩ := List.exists_cons_of_ne_nil h0
  have htl0 := toList_v (c :: r)
  obtain ⟨x, hx⟩ : ∃ x, Lib.trimS (c :: r) digs10 = x := ⟨_, rfl⟩
  have hx0 : x ≠ [] := fun e => by rw [e] at hx; have := trim_dg.1 hx; rw [h1] at this; exact absurd this (by simp)
  obtain ⟨y, ys, rfl⟩ := List.exists_cons_of_ne_nil hx0
  have htl1 := toList_v (y :: ys)
  have HX := Lib.hid hx
  have HTL := Lib.hid (show (c :: r).length ≤ 1000000 by omega)
  clear hx hx0 h0 h1
  go_enter Tryz.func102, Tryz.ntmps102
  go_wp2_with (first
   | (go_at_call 140; (with_reducible refine (prefix_v _ l _ HM.out.1).mono ?_); rintro e w1 ⟨rfl, hb1⟩; have b1 := b0.trans (hb1.mono b0.size); have x1 := x0.below hb1 x0.lt)
   | (go_at_call 141; (with_reducible refine (tprefix_v _ l _ HM.out.2).mono ?_); rintro e w2 ⟨rfl, hb2⟩; have b2 := b1.trans (hb2.mono b1.size); have x2 := x1.below hb2 x1.lt)
   | (go_at_call 142; (with_reducible refine (trim_v _ _ (y :: ys) ?_ HX.out).mono ?_); (exact HTL.out); rintro e w3 ⟨rfl, hb3⟩; have b3 := b2.trans (hb3.mono b2.size); have x3 := x2.below hb3 x2.lt; obtain ⟨c0, c1⟩ := x3.c2; obtain ⟨f0, f1⟩ := x3.f2))
  refine bodyPost_ret (v := .tuple #[.agg #[.bool false, .slice none 0 0], .iface 77 (.int .i64 2)]) (by simp [results, Tryz.results102, go_sem, *] <;> first | rfl | exact ⟨rfl, rfl⟩) rfl ?_
  exact ⟨_, _, _, _, rfl, IV.zero _ _, (b3.setCell (by dsimp only; omega) _).setCell (by dsimp only; omega) _⟩
 ·obtain ⟨c, r, rfl⟩ := List.exists_cons_of_ne_nil h0
  have hc : c = 48 := by simpa using h2
  subst hc
  have htl0 := toList_v (48 :: r)
  have htl1 := toList_v []
  have hsz0 := size_v (48 :: r)
  have HX := Lib.hid (trim_dg.2 h1)
  have HTL := Lib.hid (show (48 :: r : List UInt8).length ≤ 1000000 by omega)
  clear h0 h1 h2
  by_cases hr : r = []
  ·subst hr
   have hm : m = true := by
    rcases h3 with h | h
    ·exact absurd h (by simp)
    ·exact h
   subst hm
   clear h3
   go_enter Tryz.func102, Tryz.ntmps102
   go_wp2_with (first
    | (go_at_call 140; (with_reducible refine (prefix_v _ l _ HM.out.1).mono ?_); rintro e w1 ⟨rfl, hb1⟩; have b1 := b0.trans (hb1.mono b0.size); have x1 := x0.below hb1 x0.lt)
    | (go_at_call 141; (with_reducible refine (tprefix_v _ l _ HM.out.2).mono ?_); rintro e w2 ⟨rfl, hb2⟩; have b2 := b1.trans (hb2.mono b1.size); have x2 := x1.below hb2 x1.lt)
    | (go_at_call 142; (with_reducible refine (trim_v _ _ [] ?_ HX.out).mono ?_); (exact HTL.out); rintro e w3 ⟨rfl, hb3⟩; have b3 := b2.trans (hb3.mono b2.size); have x3 := x2.below hb3 x2.lt; obtain ⟨c0, c1⟩ := x3.c2; obtain ⟨f0, f1⟩ := x3.f2))
   refine bodyPost_ret (v := .tuple #[.agg #[.bool false, .slice none 0 0], .iface 77 (.int .i64 2)]) (by simp [results, Tryz.results102, go_sem, *] <;> first | rfl | exact ⟨rfl, rfl⟩) rfl ?_
   exact ⟨_, _, _, _, rfl, IV.zero _ _, (b3.setCell (by dsimp only; omega) _).setCell (by dsimp only; omega) _⟩
  ·obtain ⟨d, rs, rfl⟩ := List.exists_cons_of_ne_nil hr
   have hlen : 1 < (48 :: d :: rs : List UInt8).length := by simp
   clear h3 hr
   go_enter Tryz.func102, Tryz.ntmps102
   go_wp2_with (first
    | (go_at_call 140; (with_reducible refine (prefix_v _ l _ HM.out.1).mono ?_); rintro e w1 ⟨rfl, hb1⟩; have b1 := b0.trans (hb1.mono b0.size); have x1 := x0.below hb1 x0.lt)
    | (go_at_call 141; (with_reducible refine (tprefix_v _ l _ HM.out.2).mono ?_); rintro e w2 ⟨rfl, hb2⟩; have b2 := b1.trans (hb2.mono b1.size); have x2 := x1.below hb2 x1.lt)
    | (go_at_call 142; (with_reducible refine (trim_v _ _ [] ?_ HX.out).mono ?_); (exact HTL.out); rintro e w3 ⟨rfl, hb3⟩; have b3 := b2.trans (hb3.mono b2.size); have x3 := x2.below hb3 x2.lt; obtain ⟨c0, c1⟩ := x3.c2; obtain ⟨f0, f1⟩ := x3.f2))
   refine bodyPost_ret (v := .tuple #[.agg #[.bool false, .slice none 0 0], .iface 77 (.int .i64 2)]) (by simp [results, Tryz.results102, go_sem, *] <;> first | rfl | exact ⟨rfl, rfl⟩) rfl ?_
   exact ⟨_, _, _, _, rfl, IV.zero _ _, (b3.setCell (by dsimp only; omega) _).setCell (by dsimp only; omega) _⟩
def ParseI (T : List UInt8) (W0 wr : World) (tv mv : Value) : Prop := ∃ pre rest A1 n1 c1, tv = strV rest ∧ mv = .slice A1 n1 c1 ∧ n1 ≤ 65536 ∧ rest.length ≤ 65536 ∧ Kept (GrpI T pre rest ∧ pre.all isDg = true ∧ rest.all isDg = true ∧ Wd wr A1 n1 c1 (digs (decVal pre))) ∧ Below W0.heap.size W0 wr
def strLen : Value → Nat
  | .string s => s.size
  | _ => 0
theorem plus_k (w : World) (A : Option Addr) (n c x : Nat) (wa : Wd w A n c (digs x)) (hn : n ≤ 1099511627776) (A' : Option Addr) (n' c' y : Nat) (wb : Wd w A' n' c' (digs y)) (hn' : n' ≤ 1099511627776) :
    Calls Tryz.prog 144 #[.slice A n c, .slice A' n' c'] w (RetL w (digs (x + y))) := by
  have := plus_c w A n c (digs x) wa hn A' n' c' (digs y) wb hn'
  rw [val_digs, val_digs] at this
  exact this
theorem times_n (w : World) (A : Option Addr) (n c x : Nat) (wa : Wd w A n c (digs x)) (hn : n ≤ 1099511627776) (g : Nat) (z : Int) (y : Nat) (hz : z = y) (hy : y < 4294967296) (hb : Blk w g 102 #[.int .u32 z]) :
    Calls Tryz.prog 145 #[.slice A n c, .slice (some ⟨g, 0, none⟩) 1 1] w (RetL w (digs (x * y))) := by
  subst hz
  have h1 : Wd w (some ⟨g, 0, none⟩) 1 1 [y] := Blk.wdN (l := [y]) hb (by intro x hx; simp at hx; omega) rfl
  have := times_c w A n c (digs x) wa hn (some ⟨g, 0, none⟩) 1 1 [y] h1 (by omega)
  rw [val_digs, show val [y] = y by simp [val]] at this
  exact this
theorem trim_n (w : World) (g : Nat) (z : Int) (y : Nat) (hz : z = y) (hy : y < 4294967296) (hb : Blk w g 102 #[.int .u32 z]) :
    Calls Tryz.prog 146 #[.slice (some ⟨g, 0, none⟩) 1 1] w (RetL w (digs y)) := by
  subst hz
  have h1 : Wd w (some ⟨g, 0, none⟩) 1 1 [y] := Blk.wdN (l := [y]) hb (by intro x hx; simp at hx; omega) rfl
  have := trim_c w (some ⟨g, 0, none⟩) 1 1 [y] h1 (by omega)
  rw [show val [y] = y by simp [val]] at this
  exact this
theorem i_parse_ok (w : World) (l : List UInt8) (hl : l.length ≤ 65536) (hb : okZ l = true) :
    Calls Tryz.prog 102 #[strV l] w (RetIe w .nilIface (valZ l) l.length) := by
  have hsz := size_v l
  have htl2 := tailS_len l
  have htl := Nat.le_trans htl2 hl
  obtain ⟨m, hm⟩ : ∃ m, headM l = m := ⟨_, rfl⟩
  obtain ⟨t, ht⟩ : ∃ t, tailS l = t := ⟨_, rfl⟩
  obtain ⟨h0, h1, h2⟩ := okZ_parts hb
  have hv : valZ l = if m then -(decVal t : Int) else decVal t := by unfold valZ; rw [hm, ht]
  rw [hm, ht] at h2
  rw [ht] at htl htl2 h0 h1
  have HM := Lib.hid (And.intro hm ht)
  have HV := Lib.hid hv
  have b0 : Below w.heap.size w (w.alloc (.cells #[.bool false, .slice none 0 0] 46)) := (brefl w).alloc (Nat.le_refl _) _
  have x0 : Blk (w.alloc (.cells #[.bool false, .slice none 0 0] 46)) w.heap.size 46 #[.bool false, .slice none 0 0] := blkAt _ _ _ rfl
  clear hb hm ht hv
  obtain ⟨c, r, rfl⟩ := List.exists_cons_of_ne_nil h0
  have htl0 := toList_v (c :: r)
  have htl1 := toList_v []
  have hsz0 := size_v (c :: r)
  have HX := Lib.hid (trim_dg.2 h1)
  have HTL := Lib.hid (show (c :: r : List UInt8).length ≤ 1000000 by omega)
  have HALL := Lib.hid h1
  have hcase : c ≠ 48 ∨ (c = 48 ∧ r = [] ∧ m = false) := by
    by_cases hc : c = 48
    · refine .inr ⟨hc, ?_, ?_⟩
      · cases r with
        | nil => rfl
        | cons d rs => exact absurd ⟨by rw [hc]; rfl, .inl (by simp)⟩ h2
      · cases m with
        | false => rfl
        | true => exact absurd ⟨by rw [hc]; rfl, .inr rfl⟩ h2
    · exact .inl hc
  have HLL := Lib.hid htl
  have HSZ := Lib.hid (show (valZ l).natAbs < 4294967296 ^ l.length by
    rw [HV.out]
    refine Nat.lt_of_lt_of_le (show (if m = true then -(decVal (c :: r) : Int) else (decVal (c :: r) : Int)).natAbs < 4294967296 ^ (c :: r).length by
      have := decVal_words h1
      split <;> omega) (Nat.pow_le_pow_right (by omega) htl2))
  clear h0 h1 h2
  rcases hcase with hc | ⟨rfl, rfl, rfl⟩
  · have hcn : c.toNat ≠ 48 := fun e => hc (UInt8.toNat.inj e)
    have hcz : ¬ (c.toNat : Int) = 48 := by omega
    have hcb : ((c.toNat : Int) == 48) = false := by simp; omega
    have hget : ∀ h, (⟨(c :: r).toArray⟩ : ByteArray)[0]'h = c := fun h => rfl
    go_enter Tryz.func102, Tryz.ntmps102
    go_wp2_with (first
      | (go_at_call 140; (with_reducible refine (prefix_v _ l _ HM.out.1).mono ?_); rintro e w1 ⟨rfl, hb1⟩; have b1 := b0.trans (hb1.mono b0.size); have x1 := x0.below hb1 x0.lt)
      | (go_at_call 141; (with_reducible refine (tprefix_v _ l _ HM.out.2).mono ?_); rintro e w2 ⟨rfl, hb2⟩; have b2 := b1.trans (hb2.mono b1.size); have x2 := x1.below hb2 x1.lt)
      | (go_at_call 142; (with_reducible refine (trim_v _ _ [] ?_ HX.out).mono ?_); (exact HTL.out); rintro e w3 ⟨rfl, hb3⟩; have b3 := b2.trans (hb3.mono b2.size); have x3 := x2.below hb3 x2.lt))
    clear hget hcz hcb hcn hc htl0 htl1 hsz0
    go_loopw [5, 6] (fun tv mv wr => ParseI (c :: r) w3 wr tv mv) (fun tv _ _ => strLen tv)
    case atStart => exact ⟨[], (c :: r), none, 0, 0, rfl, rfl, by omega, HLL.out, ⟨GrpI.start _, rfl, HALL.out, by rw [show decVal [] = 0 from rfl, digs_zero]; exact Wd.nil_ _⟩, brefl _⟩
    case round =>
      obtain ⟨pre, rest, A1, n1, c1, rfl, rfl, hn1, hrl, hK, rr⟩ := hrel
      have bw := b3.trans (rr.mono b3.size)
      have x4 := x3.below rr x3.lt
      by_cases hr0 : rest = []
      · subst hr0
        have hpre := hK.1.fin
        subst hpre
        have hsz1 := size_v []
        go_wp2_with (go_at_call 120; (with_reducible refine (whole_c _ m A1 n1 c1 (digs (decVal (c :: r))) ?_ ?_).mono ?_); (exact hK.2.2.2); omega; rintro e w5 ⟨A5, n5, c5, rfl, h5, hb5⟩; have b5 := bw.trans (hb5.mono bw.size); have x5 := x4.below hb5 x4.lt; obtain ⟨d0, d1⟩ := x5.c2; obtain ⟨f0, f1⟩ := x5.f2)
        rw [val_digs] at h5
        have hz : sgn m (decVal (c :: r)) = valZ l := by rw [HV.out]; rfl
        rw [hz] at h5
        refine bodyPost_ret (v := .tuple #[.agg #[.bool _, .slice A5 n5 c5], .nilIface]) (by simp [results, Tryz.results102, go_sem, *] <;> first | rfl | exact ⟨rfl, rfl⟩) rfl ?_
        exact ⟨_, _, _, _, rfl, IV.mk_ (h5.keep (kp2 ⟨_, _, x5⟩ (by decide) _ _ _ _)) (by rw [val_digs, hz]) HSZ.out, (b5.setCell (by dsimp only; omega) _).setCell (by dsimp only; omega) _⟩
      · have hlp : 0 < rest.length := List.length_pos_iff.2 hr0
        obtain ⟨L, hL⟩ : ∃ L, rest.length = L := ⟨_, rfl⟩
        obtain ⟨k, hk⟩ : ∃ k, (L - 1) % 9 = k := ⟨_, rfl⟩
        have hk9 : k < 9 := by rw [← hk]; exact Nat.mod_lt _ (by omega)
        have hst := hK.1.step (n := k + 1) hlp (by rw [hL, hk])
        rw [hL] at hst hlp hrl
        have hkL := hst.1
        have hsz1 : (⟨rest.toArray⟩ : ByteArray).size = L := hL
        have e1 : ((L : Int) - 1) % 9 = (k : Int) := by omega
        have e2 : (⟨rest.toArray⟩ : ByteArray).extract 0 (k + 1) = ⟨(rest.take (k + 1)).toArray⟩ := by rw [ext_v]; simp
        have e3 : (⟨rest.toArray⟩ : ByteArray).extract (k + 1) L = ⟨(rest.drop (k + 1)).toArray⟩ := by rw [ext_v, List.take_of_length_le]; rw [List.length_drop, hL]; exact Nat.le_refl _
        obtain ⟨x, hx⟩ : ∃ x, decVal (rest.take (k + 1)) = x := ⟨_, rfl⟩
        have htk := all_take hK.2.2.1 (k + 1)
        have hx9 : x < 1000000000 := by
          have h9 := decVal_lt htk
          rw [hx] at h9
          refine Nat.lt_of_lt_of_le h9 (Nat.le_trans (Nat.pow_le_pow_right (by omega) (show (rest.take (k + 1)).length ≤ 9 by rw [List.length_take]; omega)) (by decide))
        have hpd := all_drop hK.2.2.1 (k + 1)
        have HST := Lib.hid hst
        have HXX := Lib.hid hx
        have HTK := Lib.hid htk
        have HLR := Lib.hid hL
        have hnd : (rest.drop (k + 1)).length = L - (k + 1) := by rw [List.length_drop, hL]
        have HND := Lib.hid hnd
        have hT1 : (rest.take (k + 1)).length ≤ 9 := by rw [List.length_take]; omega
        have hT0 : rest.take (k + 1) ≠ [] := fun e => by have := congrArg List.length e; rw [List.length_take, hL] at this; simp at this; omega
        have HT1 := Lib.hid (And.intro hT1 hT0)
        have hpl := decVal_lt (show (pre ++ rest.take (k + 1)).all isDg = true by rw [List.all_append, hK.2.1, htk]; rfl)
        clear hk hst hx htk hL hr0 hnd hT1 hT0
        go_wp2_with (first
          | (go_at_call 143; (with_reducible refine (atoi_v _ (rest.take (k + 1)) x ?_ ?_ ?_ HXX.out).mono ?_); (exact HT1.out.1); (exact HT1.out.2); (exact HTK.out); rintro e w5 ⟨rfl, hb5⟩; have b5 : Below wr.heap.size wr (w5.alloc (.cells #[.int .u32 1000000000] 102)) := hb5.alloc hb5.size _; have y5 : Blk (w5.alloc (.cells #[.int .u32 1000000000] 102)) w5.heap.size 102 #[.int .u32 1000000000] := blkAt _ _ _ rfl)
          | (go_at_call 145; (with_reducible refine (times_n _ A1 n1 c1 (decVal pre) ?_ ?_ w5.heap.size 1000000000 1000000000 ?_ ?_ ?_).mono ?_); (exact hK.2.2.2.belw b5); omega; rfl; omega; (exact y5); rintro e w6 ⟨A6, n6, c6, rfl, h6, hb6⟩; have b6 := b5.trans (hb6.mono b5.size); have hn6 : n6 ≤ 1000000000 := (by have h9 := h6.2.1; rw [h9]; refine Nat.le_trans (length_digs_le (k := n1 + 1) ?_) (by omega); have h8 := (hK.2.2.2).vlt (Nat.le_refl _); rw [val_digs] at h8; rw [Nat.pow_succ]; exact Nat.mul_lt_mul'' h8 (by omega)))
          | (go_at_call 146; (with_reducible refine (trim_n _ w6.heap.size (x : Int) x ?_ ?_ ?_).mono ?_); (first | rfl | omega); omega; (exact blkAt _ _ _ rfl); rintro e w7 ⟨A7, n7, c7, rfl, h7, hb7⟩; have b7 : Below wr.heap.size wr w7 := (b6.alloc b6.size _).trans (hb7.mono (by have := b6.size; simp; omega)); have h67 : Below w6.heap.size w6 w7 := ((brefl w6).alloc (Nat.le_refl _) _).trans (hb7.mono (by simp)); have hn7 : n7 ≤ 1000000000 := (by have h9 := h7.2.1; rw [h9]; exact Nat.le_trans (length_digs_le (k := 1) (by omega)) (by omega)))
          | (go_at_call 144; (with_reducible refine (plus_k _ A6 n6 c6 (decVal pre * 1000000000) ?_ ?_ A7 n7 c7 x ?_ ?_).mono ?_); (exact h6.belw h67); omega; (exact h7); omega; rintro e w8 ⟨A8, n8, c8, rfl, h8, hb8⟩; have b8 := b7.trans (hb8.mono b7.size)))
        have hv8 : decVal pre * 1000000000 + x = decVal (pre ++ rest.take (k + 1)) := by rw [HST.out.2.2.2.2, HXX.out]
        go_roundw
        case rel =>
          refine ⟨pre ++ rest.take (k + 1), rest.drop (k + 1), A8, n8, c8, rfl, rfl, ?_, by rw [HND.out]; omega, ⟨HST.out.2.2.2.1, by rw [List.all_append, hK.2.1, HTK.out]; rfl, hpd, by rw [← hv8]; exact h8⟩, rr.trans (b8.mono rr.size)⟩
          rw [h8.2.1, hv8]
          refine Nat.le_trans (length_digs_le (Nat.lt_of_lt_of_le hpl (len_ten _))) ?_
          have h9 := congrArg List.length HST.out.2.2.2.1.1
          rw [List.length_append] at h9
          omega
        case measure =>
          show (rest.drop (k + 1)).length < rest.length
          rw [HND.out, HLR.out]; omega
  · go_enter Tryz.func102, Tryz.ntmps102
    go_wp2_with (first
      | (go_at_call 140; (with_reducible refine (prefix_v _ l _ HM.out.1).mono ?_); rintro e w1 ⟨rfl, hb1⟩; have b1 := b0.trans (hb1.mono b0.size); have x1 := x0.below hb1 x0.lt)
      | (go_at_call 141; (with_reducible refine (tprefix_v _ l _ HM.out.2).mono ?_); rintro e w2 ⟨rfl, hb2⟩; have b2 := b1.trans (hb2.mono b1.size); have x2 := x1.below hb2 x1.lt)
      | (go_at_call 142; (with_reducible refine (trim_v _ _ [] ?_ HX.out).mono ?_); (exact HTL.out); rintro e w3 ⟨rfl, hb3⟩; have b3 := b2.trans (hb3.mono b2.size); have x3 := x2.below hb3 x2.lt))
    clear htl0 htl1
    go_loopw [5, 6] (fun tv mv wr => ParseI [48] w3 wr tv mv) (fun tv _ _ => strLen tv)
    case atStart => exact ⟨[], [48], none, 0, 0, rfl, rfl, by omega, HLL.out, ⟨GrpI.start _, rfl, HALL.out, by rw [show decVal [] = 0 from rfl, digs_zero]; exact Wd.nil_ _⟩, brefl _⟩
    case round =>
      obtain ⟨pre, rest, A1, n1, c1, rfl, rfl, hn1, hrl, hK, rr⟩ := hrel
      have bw := b3.trans (rr.mono b3.size)
      have x4 := x3.below rr x3.lt
      by_cases hr0 : rest = []
      · subst hr0
        have hpre := hK.1.fin
        subst hpre
        have hsz1 := size_v []
        go_wp2_with (go_at_call 120; (with_reducible refine (whole_c _ false A1 n1 c1 (digs (decVal [48])) ?_ ?_).mono ?_); (exact hK.2.2.2); omega; rintro e w5 ⟨A5, n5, c5, rfl, h5, hb5⟩; have b5 := bw.trans (hb5.mono bw.size); have x5 := x4.below hb5 x4.lt; obtain ⟨d0, d1⟩ := x5.c2; obtain ⟨f0, f1⟩ := x5.f2)
        rw [val_digs] at h5
        have hz : sgn false (decVal [48]) = valZ l := by rw [HV.out]; rfl
        rw [hz] at h5
        refine bodyPost_ret (v := .tuple #[.agg #[.bool _, .slice A5 n5 c5], .nilIface]) (by simp [results, Tryz.results102, go_sem, *] <;> first | rfl | exact ⟨rfl, rfl⟩) rfl ?_
        exact ⟨_, _, _, _, rfl, IV.mk_ (h5.keep (kp2 ⟨_, _, x5⟩ (by decide) _ _ _ _)) (by rw [val_digs, hz]) HSZ.out, (b5.setCell (by dsimp only; omega) _).setCell (by dsimp only; omega) _⟩
      · have hlp : 0 < rest.length := List.length_pos_iff.2 hr0
        obtain ⟨L, hL⟩ : ∃ L, rest.length = L := ⟨_, rfl⟩
        obtain ⟨k, hk⟩ : ∃ k, (L - 1) % 9 = k := ⟨_, rfl⟩
        have hk9 : k < 9 := by rw [← hk]; exact Nat.mod_lt _ (by omega)
        have hst := hK.1.step (n := k + 1) hlp (by rw [hL, hk])
        rw [hL] at hst hlp hrl
        have hkL := hst.1
        have hsz1 : (⟨rest.toArray⟩ : ByteArray).size = L := hL
        have e1 : ((L : Int) - 1) % 9 = (k : Int) := by omega
        have e2 : (⟨rest.toArray⟩ : ByteArray).extract 0 (k + 1) = ⟨(rest.take (k + 1)).toArray⟩ := by rw [ext_v]; simp
        have e3 : (⟨rest.toArray⟩ : ByteArray).extract (k + 1) L = ⟨(rest.drop (k + 1)).toArray⟩ := by rw [ext_v, List.take_of_length_le]; rw [List.length_drop, hL]; exact Nat.le_refl _
        obtain ⟨x, hx⟩ : ∃ x, decVal (rest.take (k + 1)) = x := ⟨_, rfl⟩
        have htk := all_take hK.2.2.1 (k + 1)
        have hx9 : x < 1000000000 := by
          have h9 := decVal_lt htk
          rw [hx] at h9
          refine Nat.lt_of_lt_of_le h9 (Nat.le_trans (Nat.pow_le_pow_right (by omega) (show (rest.take (k + 1)).length ≤ 9 by rw [List.length_take]; omega)) (by decide))
        have hpd := all_drop hK.2.2.1 (k + 1)
        have HST := Lib.hid hst
        have HXX := Lib.hid hx
        have HTK := Lib.hid htk
        have HLR := Lib.hid hL
        have hnd : (rest.drop (k + 1)).length = L - (k + 1) := by rw [List.length_drop, hL]
        have HND := Lib.hid hnd
        have hT1 : (rest.take (k + 1)).length ≤ 9 := by rw [List.length_take]; omega
        have hT0 : rest.take (k + 1) ≠ [] := fun e => by have := congrArg List.length e; rw [List.length_take, hL] at this; simp at this; omega
        have HT1 := Lib.hid (And.intro hT1 hT0)
        have hpl := decVal_lt (show (pre ++ rest.take (k + 1)).all isDg = true by rw [List.all_append, hK.2.1, htk]; rfl)
        clear hk hst hx htk hL hr0 hnd hT1 hT0
        go_wp2_with (first
          | (go_at_call 143; (with_reducible refine (atoi_v _ (rest.take (k + 1)) x ?_ ?_ ?_ HXX.out).mono ?_); (exact HT1.out.1); (exact HT1.out.2); (exact HTK.out); rintro e w5 ⟨rfl, hb5⟩; have b5 : Below wr.heap.size wr (w5.alloc (.cells #[.int .u32 1000000000] 102)) := hb5.alloc hb5.size _; have y5 : Blk (w5.alloc (.cells #[.int .u32 1000000000] 102)) w5.heap.size 102 #[.int .u32 1000000000] := blkAt _ _ _ rfl)
          | (go_at_call 145; (with_reducible refine (times_n _ A1 n1 c1 (decVal pre) ?_ ?_ w5.heap.size 1000000000 1000000000 ?_ ?_ ?_).mono ?_); (exact hK.2.2.2.belw b5); omega; rfl; omega; (exact y5); rintro e w6 ⟨A6, n6, c6, rfl, h6, hb6⟩; have b6 := b5.trans (hb6.mono b5.size); have hn6 : n6 ≤ 1000000000 := (by have h9 := h6.2.1; rw [h9]; refine Nat.le_trans (length_digs_le (k := n1 + 1) ?_) (by omega); have h8 := (hK.2.2.2).vlt (Nat.le_refl _); rw [val_digs] at h8; rw [Nat.pow_succ]; exact Nat.mul_lt_mul'' h8 (by omega)))
          | (go_at_call 146; (with_reducible refine (trim_n _ w6.heap.size (x : Int) x ?_ ?_ ?_).mono ?_); (first | rfl | omega); omega; (exact blkAt _ _ _ rfl); rintro e w7 ⟨A7, n7, c7, rfl, h7, hb7⟩; have b7 : Below wr.heap.size wr w7 := (b6.alloc b6.size _).trans (hb7.mono (by have := b6.size; simp; omega)); have h67 : Below w6.heap.size w6 w7 := ((brefl w6).alloc (Nat.le_refl _) _).trans (hb7.mono (by simp)); have hn7 : n7 ≤ 1000000000 := (by have h9 := h7.2.1; rw [h9]; exact Nat.le_trans (length_digs_le (k := 1) (by omega)) (by omega)))
          | (go_at_call 144; (with_reducible refine (plus_k _ A6 n6 c6 (decVal pre * 1000000000) ?_ ?_ A7 n7 c7 x ?_ ?_).mono ?_); (exact h6.belw h67); omega; (exact h7); omega; rintro e w8 ⟨A8, n8, c8, rfl, h8, hb8⟩; have b8 := b7.trans (hb8.mono b7.size)))
        have hv8 : decVal pre * 1000000000 + x = decVal (pre ++ rest.take (k + 1)) := by rw [HST.out.2.2.2.2, HXX.out]
        go_roundw
        case rel =>
          refine ⟨pre ++ rest.take (k + 1), rest.drop (k + 1), A8, n8, c8, rfl, rfl, ?_, by rw [HND.out]; omega, ⟨HST.out.2.2.2.1, by rw [List.all_append, hK.2.1, HTK.out]; rfl, hpd, by rw [← hv8]; exact h8⟩, rr.trans (b8.mono rr.size)⟩
          rw [h8.2.1, hv8]
          refine Nat.le_trans (length_digs_le (Nat.lt_of_lt_of_le hpl (len_ten _))) ?_
          have h9 := congrArg List.length HST.out.2.2.2.1.1
          rw [List.length_append] at h9
          omega
        case measure =>
          show (rest.drop (k + 1)).length < rest.length
          rw [HND.out, HLR.out]; omega
end Go.Proofs.YtkpjhmpjihchpaaGreatDoor

/- Walks: linkworkref01.Parse. -/
namespace Go.Proofs.YtkpjhmpjihchpaaGreatDoor
open Go Go.RowKit Bn

def RetP (w : World) (T : List UInt8) (m : Bool) (k : Nat) (e : Ending) (w' : World) : Prop :=
  if T.all isDg = true then RetIe w (.int .i64 0) (if m then -(decVal T : Int) else decVal T) k e w' else RetIe w (.int .i64 2) 0 0 e w'
theorem RetP.good {w w' : World} {T : List UInt8} {m : Bool} {k : Nat} {e : Ending} (h : T.all isDg = true) (hr : RetIe w (.int .i64 0) (if m then -(decVal T : Int) else decVal T) k e w') : RetP w T m k e w' := by
  unfold RetP; rw [if_pos h]; exact hr
end Go.Proofs.YtkpjhmpjihchpaaGreatDoor

/- Walks: IntegerTexts. -/
namespace Go.Proofs.YtkpjhmpjihchpaaGreatDoor
open Go Go.RowKit Bn
attribute [local go_sem ↓] Go.wp_at_zero Go.wp_at_succ
def errV (x : Int) : Value := if x = 0 then .nilIface else .iface 77 (.int .i64 x)
theorem errV_0 : errV 0 = .nilIface := if_pos rfl
def ParseOut (l : List UInt8) (x z : Int) : Prop := (65536 < l.length ∧ x = 4 ∧ z = 0) ∨ (l.length ≤ 65536 ∧ okZ l = false ∧ x = 2 ∧ z = 0) ∨ (l.length ≤ 65536 ∧ okZ l = true ∧ x = 0 ∧ z = valZ l)
theorem parseOut (l : List UInt8) : ∃ x z, ParseOut l x z := by
  by_cases h : 65536 < l.length
  · exact ⟨4, 0, .inl ⟨h, rfl, rfl⟩⟩
  · cases hb : okZ l
    · exact ⟨2, 0, .inr (.inl ⟨by omega, hb, rfl, rfl⟩)⟩
    · exact ⟨0, valZ l, .inr (.inr ⟨by omega, hb, rfl, rfl⟩)⟩
theorem RetIe.mono {w w' : World} {v : Value} {z : Int} {k j : Nat} {e : Ending} (h : RetIe w v z k e w') (hk : k ≤ j) : RetIe w v z j e w' := by
  obtain ⟨b, A, n, c, h1, h2, h3⟩ := h
  exact ⟨b, A, n, c, h1, h2.mono hk, h3⟩
theorem i_parse_o (w : World) (l : List UInt8) (x z : Int) (h : ParseOut l x z) : Calls Tryz.prog 102 #[strV l] w (RetIe w (errV x) z 65536) := by
  rcases h with ⟨h1, rfl, rfl⟩ | ⟨h1, h2, rfl, rfl⟩ | ⟨h1, h2, rfl, rfl⟩
  · exact (i_parse_big w l h1).mono fun e w' r => r.mono (by omega)
  · exact (i_parse_bad w l h1 h2).mono fun e w' r => r.mono (by omega)
  · exact (i_parse_ok w l h1 h2).mono fun e w' r => r.mono (by omega)
end Go.Proofs.YtkpjhmpjihchpaaGreatDoor

/- Plain: decimals. -/
namespace Go.Proofs.YtkpjhmpjihchpaaGreatDoor
open Go Go.RowKit Bn
attribute [local go_sem ↓] Go.wp_at_zero Go.wp_at_succ
def NI (z : Int) (B : List UInt8) (i : Nat) : Int := z * 10 ^ i + (decVal (B.take i) : Nat)
theorem NI_zero (z : Int) (B : List UInt8) : NI z B 0 = z := by
  unfold NI; rw [List.take_zero, show decVal [] = 0 from rfl]; simp
theorem NI_succ (z : Int) (B : List UInt8) (i : Nat) (h : i < B.length) : NI z B i * 10 + (dval B[i] : Nat) = NI z B (i + 1) := by
  unfold NI
  rw [List.take_succ_eq_append_getElem h, decVal_snoc, Int.pow_succ]
  push_cast
  rw [Int.add_mul, Int.mul_assoc]; omega
theorem NI_len (z : Int) (B : List UInt8) : NI z B B.length = z * 10 ^ B.length + (decVal B : Nat) := by
  unfold NI; rw [List.take_length]
theorem ten_lt {i : Nat} (hi : i ≤ 64) : (((10 ^ i : Nat) : Int)).natAbs < 4294967296 ^ 64 := by
  rw [Int.natAbs_natCast]
  have h1 : 10 ^ i ≤ 10 ^ 64 := Nat.pow_le_pow_right (by omega) hi
  have h2 : (10 : Nat) ^ 64 < 4294967296 ^ 64 := by decide
  omega
theorem ten_ne (i : Nat) : ((10 ^ i : Nat) : Int) ≠ 0 := by have := Nat.pow_pos (n := i) (show 0 < 10 by omega); omega
theorem NI_lt {x i j : Nat} {B : List UInt8} (hx : x < 10 ^ j) (hB : B.all isDg = true) (hl : i ≤ B.length) (hj : j + B.length ≤ 64) : (NI (x : Int) B i).natAbs < 4294967296 ^ 64 := by
  have h1 : decVal (B.take i) < 10 ^ i := by
    have := decVal_lt (all_take hB i)
    rw [List.length_take, Nat.min_eq_left hl] at this
    exact this
  have h2 : NI (x : Int) B i = ((x * 10 ^ i + decVal (B.take i) : Nat) : Int) := by unfold NI; push_cast; rfl
  rw [h2, Int.natAbs_natCast]
  have h3 : x * 10 ^ i + decVal (B.take i) < 10 ^ (j + i) := by
    rw [Nat.pow_add]
    have : (x + 1) * 10 ^ i ≤ 10 ^ j * 10 ^ i := Nat.mul_le_mul_right _ hx
    rw [Nat.add_mul] at this
    omega
  have h4 : 10 ^ (j + i) ≤ 10 ^ 64 := Nat.pow_le_pow_right (by omega) (by omega)
  have h5 : (10 : Nat) ^ 64 < 4294967296 ^ 64 := by decide
  omega
theorem dec_lt {T : List UInt8} {X : Nat} (h : okZ T = true) (hX : valZ T = (X : Int)) : ∃ J, J ≤ T.length ∧ X < 10 ^ J := by
  obtain ⟨h0, h1, h2⟩ := okZ_parts h
  refine ⟨(tailS T).length, tailS_len T, ?_⟩
  have h3 := decVal_lt h1
  unfold valZ at hX
  split at hX <;> omega
theorem sign_nn {z : Int} (h : 0 ≤ z) : 0 ≤ z.sign := by
  rcases sign3 z with s | s | s
  · rw [s]; decide
  · rw [s]; decide
  · have := Int.sign_eq_neg_one_iff_neg.1 s; omega
theorem ten_succ (i : Nat) : ((10 ^ i : Nat) : Int) * 10 = ((10 ^ (i + 1) : Nat) : Int) := by rw [Nat.pow_succ]; push_cast; rfl
theorem f_dec_1 (w : World) (F B : List UInt8) (hFB : F.length + B.length ≤ 64) (ho : okZ (tailS F) = false) :
  Calls Tryz.prog 101 #[strV F, strV B] w (RetFe w (.iface 77 (.int .i64 2)) 0 64) := by
 obtain ⟨mm, hmm⟩ : ∃ mm, headM F = mm := ⟨_, rfl⟩
 obtain ⟨T, hT⟩ : ∃ T, tailS F = T := ⟨_, rfl⟩
 have HM := Lib.hid hmm
 have HT := Lib.hid hT
 have hTF : T.length ≤ F.length := by rw [← hT]; exact tailS_len F
 have hT6 : T.length ≤ 65536 := by omega
 have hB6 : B.length ≤ 1000000 := by omega
 have htlB := toList_v B
 have htl1 := toList_v []
 have hszB := size_v B
 have HO := Lib.hid (show okZ T = false by rw [← hT]; exact ho)
 clear hmm hT ho
 go_enter Tryz.func101, Tryz.ntmps101
 go_wp2_with fail
 (with_reducible refine (prefix_v _ (F) mm HM.out).mono ?_); rintro e w1 ⟨rfl, hb1⟩
 have q1 := ((Below.refl _ _).alloc (Nat.le_refl _) _).trans (hb1.mono (by simp))
 have x1a : Blk w1 w.heap.size 24 #[.bool false, .slice none 0 0, .slice none 0 0] := (blkAt _ _ _ (by simp)).below hb1 (by simp)
 have bw1 := (brefl w).trans (q1.mono (brefl w).size)
 have lw1 : w.heap.size + 1 ≤ w1.heap.size := by have := hb1.size; simp at this; omega
 clear q1
 go_wp2_with fail
 (with_reducible refine (tprefix_v _ (F) T HT.out).mono ?_); rintro e w2 ⟨rfl, q2⟩
 replace x1a := x1a.b q2
 have bw2 := bw1.trans (q2.mono bw1.size)
 have lw2 := q2.size
 clear q2 bw1
 go_wp2_with fail
 (with_reducible refine (i_parse_bad _ (T) (by omega) HO.out).mono ?_); rintro e w3 ⟨b3, A3, n3, c3, rfl, h3, q3⟩
 replace x1a := x1a.b q3
 have bw3 := bw2.trans (q3.mono bw2.size)
 have lw3 := q3.size
 clear q3 bw2
 obtain ⟨cx1aa, cx1ab, cx1ac⟩ := x1a.c3
 obtain ⟨fx1aa, fx1ab, fx1ac⟩ := x1a.f3
 obtain ⟨lx1aa, lx1ab, lx1ac, lx1ad⟩ := lts0 x1a.lt
 go_wp2_with fail
 refine bodyPost_ret (v := .tuple #[.agg #[.bool false, .slice none 0 0, .slice none 0 0], .iface 77 (.int .i64 2)]) (by simp [results, Tryz.results101, go_sem, *] <;> first | rfl | exact ⟨rfl, rfl⟩) rfl ?_
 exact ⟨_, _, _, _, _, _, _, rfl, QV.zero _ _, ((((bw3.sc w.heap.size 0 (by omega) (.bool false)).sc w.heap.size 1 (by omega) (.slice none 0 0)).sc w.heap.size 2 (by omega) (.slice none 0 0)).alloc (by first | omega | (simp <;> omega)) (.cells #[.bool b3, .slice A3 n3 c3] 46))⟩
theorem f_dec_2 (w : World) (F B : List UInt8) (hFB : F.length + B.length ≤ 64) (ho : okZ (tailS F) = true) (hs : (valZ (tailS F)).sign = -1) :
  Calls Tryz.prog 101 #[strV F, strV B] w (RetFe w (.iface 77 (.int .i64 2)) 0 64) := by
 obtain ⟨mm, hmm⟩ : ∃ mm, headM F = mm := ⟨_, rfl⟩
 obtain ⟨T, hT⟩ : ∃ T, tailS F = T := ⟨_, rfl⟩
 have HM := Lib.hid hmm
 have HT := Lib.hid hT
 have hTF : T.length ≤ F.length := by rw [← hT]; exact tailS_len F
 have hT6 : T.length ≤ 65536 := by omega
 have hB6 : B.length ≤ 1000000 := by omega
 have htlB := toList_v B
 have htl1 := toList_v []
 have hszB := size_v B
 have HO := Lib.hid (show okZ T = true by rw [← hT]; exact ho)
 have HS := Lib.hid (show (valZ T).sign = -1 by rw [← hT]; exact hs)
 clear hmm hT ho hs
 go_enter Tryz.func101, Tryz.ntmps101
 go_wp2_with fail
 (with_reducible refine (prefix_v _ (F) mm HM.out).mono ?_); rintro e w1 ⟨rfl, hb1⟩
 have q1 := ((Below.refl _ _).alloc (Nat.le_refl _) _).trans (hb1.mono (by simp))
 have x1a : Blk w1 w.heap.size 24 #[.bool false, .slice none 0 0, .slice none 0 0] := (blkAt _ _ _ (by simp)).below hb1 (by simp)
 have bw1 := (brefl w).trans (q1.mono (brefl w).size)
 have lw1 : w.heap.size + 1 ≤ w1.heap.size := by have := hb1.size; simp at this; omega
 clear q1
 go_wp2_with fail
 (with_reducible refine (tprefix_v _ (F) T HT.out).mono ?_); rintro e w2 ⟨rfl, q2⟩
 replace x1a := x1a.b q2
 have bw2 := bw1.trans (q2.mono bw1.size)
 have lw2 := q2.size
 clear q2 bw1
 go_wp2_with fail
 (with_reducible refine (i_parse_ok _ (T) (by omega) HO.out).mono ?_); rintro e w3 ⟨b3, A3, n3, c3, rfl, h3, q3⟩
 replace x1a := x1a.b q3
 have bw3 := bw2.trans (q3.mono bw2.size)
 have lw3 := q3.size
 clear q3 bw2
 go_wp2_with fail
 (with_reducible refine (i_sign_e _ b3 A3 n3 c3 (valZ T) (T.length) ?_ ((-1)) ?_ ?_).mono ?_); (exact (h3.belw ((Below.refl _ _).alloc (Nat.le_refl _) _)).iz); (exact HS.out); (omega); rintro e w4 ⟨rfl, hb4⟩
 have q4 := ((Below.refl _ _).alloc (Nat.le_refl _) _).trans (hb4.mono (by simp))
 replace h3 := h3.belw q4
 replace x1a := x1a.b q4
 have x4a : Blk w4 w3.heap.size 46 #[.bool b3, .slice A3 n3 c3] := (blkAt _ _ _ (by simp)).below hb4 (by simp)
 have bw4 := bw3.trans (q4.mono bw3.size)
 have lw4 : w3.heap.size + 1 ≤ w4.heap.size := by have := hb4.size; simp at this; omega
 clear q4 bw3
 obtain ⟨cx1aa, cx1ab, cx1ac⟩ := x1a.c3
 obtain ⟨fx1aa, fx1ab, fx1ac⟩ := x1a.f3
 obtain ⟨lx1aa, lx1ab, lx1ac, lx1ad⟩ := lts0 x1a.lt
 go_wp2_with fail
 refine bodyPost_ret (v := .tuple #[.agg #[.bool false, .slice none 0 0, .slice none 0 0], .iface 77 (.int .i64 2)]) (by simp [results, Tryz.results101, go_sem, *] <;> first | rfl | exact ⟨rfl, rfl⟩) rfl ?_
 exact ⟨_, _, _, _, _, _, _, rfl, QV.zero _ _, (((bw4.sc w.heap.size 0 (by omega) (.bool false)).sc w.heap.size 1 (by omega) (.slice none 0 0)).sc w.heap.size 2 (by omega) (.slice none 0 0))⟩
theorem f_dec_3 (w : World) (F : List UInt8) (hF : F.length ≤ 64) (ho : okZ (tailS F) = true) (hs : 0 ≤ (valZ (tailS F)).sign) :
  Calls Tryz.prog 101 #[strV F, strV []] w (RetFe w (.iface 77 (.int .i64 2)) 0 64) := by
 obtain ⟨B, hB⟩ : ∃ B : List UInt8, B = [] := ⟨_, rfl⟩
 have hFB : F.length + B.length ≤ 64 := by rw [hB]; exact hF
 obtain ⟨mm, hmm⟩ : ∃ mm, headM F = mm := ⟨_, rfl⟩
 obtain ⟨T, hT⟩ : ∃ T, tailS F = T := ⟨_, rfl⟩
 have HM := Lib.hid hmm
 have HT := Lib.hid hT
 have hTF : T.length ≤ F.length := by rw [← hT]; exact tailS_len F
 have hT6 : T.length ≤ 65536 := by omega
 have hB6 : B.length ≤ 1000000 := by omega
 have htlB := toList_v B
 have htl1 := toList_v []
 have hszB := size_v B
 have HO := Lib.hid (show okZ T = true by rw [← hT]; exact ho)
 obtain ⟨s, hs1⟩ : ∃ s, (valZ T).sign = s := ⟨_, rfl⟩
 have es : (s < 0) = False := by simp; rw [← hs1, ← hT]; exact hs
 have HS := Lib.hid hs1
 clear hmm hT ho hs hs1 hFB htlB hszB
 go_enter Tryz.func101, Tryz.ntmps101
 go_wp2_with fail
 (with_reducible refine (prefix_v _ (F) mm HM.out).mono ?_); rintro e w1 ⟨rfl, hb1⟩
 have q1 := ((Below.refl _ _).alloc (Nat.le_refl _) _).trans (hb1.mono (by simp))
 have x1a : Blk w1 w.heap.size 24 #[.bool false, .slice none 0 0, .slice none 0 0] := (blkAt _ _ _ (by simp)).below hb1 (by simp)
 have bw1 := (brefl w).trans (q1.mono (brefl w).size)
 have lw1 : w.heap.size + 1 ≤ w1.heap.size := by have := hb1.size; simp at this; omega
 clear q1
 go_wp2_with fail
 (with_reducible refine (tprefix_v _ (F) T HT.out).mono ?_); rintro e w2 ⟨rfl, q2⟩
 replace x1a := x1a.b q2
 have bw2 := bw1.trans (q2.mono bw1.size)
 have lw2 := q2.size
 clear q2 bw1
 go_wp2_with fail
 (with_reducible refine (i_parse_ok _ (T) (by omega) HO.out).mono ?_); rintro e w3 ⟨b3, A3, n3, c3, rfl, h3, q3⟩
 replace x1a := x1a.b q3
 have bw3 := bw2.trans (q3.mono bw2.size)
 have lw3 := q3.size
 clear q3 bw2
 go_wp2_with fail
 (with_reducible refine (i_sign_e _ b3 A3 n3 c3 (valZ T) (T.length) ?_ (s) ?_ ?_).mono ?_); (exact (h3.belw ((Below.refl _ _).alloc (Nat.le_refl _) _)).iz); (exact HS.out); (omega); rintro e w4 ⟨rfl, hb4⟩
 have q4 := ((Below.refl _ _).alloc (Nat.le_refl _) _).trans (hb4.mono (by simp))
 replace h3 := h3.belw q4
 replace x1a := x1a.b q4
 have x4a : Blk w4 w3.heap.size 46 #[.bool b3, .slice A3 n3 c3] := (blkAt _ _ _ (by simp)).below hb4 (by simp)
 have bw4 := bw3.trans (q4.mono bw3.size)
 have lw4 : w3.heap.size + 1 ≤ w4.heap.size := by have := hb4.size; simp at this; omega
 clear q4 bw3
 obtain ⟨cx1aa, cx1ab, cx1ac⟩ := x1a.c3
 obtain ⟨fx1aa, fx1ab, fx1ac⟩ := x1a.f3
 obtain ⟨lx1aa, lx1ab, lx1ac, lx1ad⟩ := lts0 x1a.lt
 go_wp2_with fail
 refine bodyPost_ret (v := .tuple #[.agg #[.bool false, .slice none 0 0, .slice none 0 0], .iface 77 (.int .i64 2)]) (by simp [results, Tryz.results101, go_sem, *] <;> first | rfl | exact ⟨rfl, rfl⟩) rfl ?_
 exact ⟨_, _, _, _, _, _, _, rfl, QV.zero _ _, (((bw4.sc w.heap.size 0 (by omega) (.bool false)).sc w.heap.size 1 (by omega) (.slice none 0 0)).sc w.heap.size 2 (by omega) (.slice none 0 0))⟩
theorem f_dec_4 (w : World) (F B : List UInt8) (hFB : F.length + B.length ≤ 64) (ho : okZ (tailS F) = true) (hs : 0 ≤ (valZ (tailS F)).sign) (hB : B ≠ []) (ha : B.all isDg = false) :
  Calls Tryz.prog 101 #[strV F, strV B] w (RetFe w (.iface 77 (.int .i64 2)) 0 64) := by
 obtain ⟨mm, hmm⟩ : ∃ mm, headM F = mm := ⟨_, rfl⟩
 obtain ⟨T, hT⟩ : ∃ T, tailS F = T := ⟨_, rfl⟩
 have HM := Lib.hid hmm
 have HT := Lib.hid hT
 have hTF : T.length ≤ F.length := by rw [← hT]; exact tailS_len F
 have hT6 : T.length ≤ 65536 := by omega
 have hB6 : B.length ≤ 1000000 := by omega
 have htlB := toList_v B
 have htl1 := toList_v []
 have hszB := size_v B
 have HO := Lib.hid (show okZ T = true by rw [← hT]; exact ho)
 obtain ⟨s, hs1⟩ : ∃ s, (valZ T).sign = s := ⟨_, rfl⟩
 have es : (s < 0) = False := by simp; rw [← hs1, ← hT]; exact hs
 have HS := Lib.hid hs1
 obtain ⟨x, xs, hx⟩ := List.exists_cons_of_ne_nil (show Lib.trimS B digs10 ≠ [] from fun e => by rw [trim_dg.1 e] at ha; cases ha)
 have HX := Lib.hid hx
 have htlx := toList_v (x :: xs)
 clear hmm hT ho hs hs1 ha hx
 obtain ⟨y, ys, rfl⟩ := List.exists_cons_of_ne_nil hB
 go_enter Tryz.func101, Tryz.ntmps101
 go_wp2_with fail
 (with_reducible refine (prefix_v _ (F) mm HM.out).mono ?_); rintro e w1 ⟨rfl, hb1⟩
 have q1 := ((Below.refl _ _).alloc (Nat.le_refl _) _).trans (hb1.mono (by simp))
 have x1a : Blk w1 w.heap.size 24 #[.bool false, .slice none 0 0, .slice none 0 0] := (blkAt _ _ _ (by simp)).below hb1 (by simp)
 have bw1 := (brefl w).trans (q1.mono (brefl w).size)
 have lw1 : w.heap.size + 1 ≤ w1.heap.size := by have := hb1.size; simp at this; omega
 clear q1
 go_wp2_with fail
 (with_reducible refine (tprefix_v _ (F) T HT.out).mono ?_); rintro e w2 ⟨rfl, q2⟩
 replace x1a := x1a.b q2
 have bw2 := bw1.trans (q2.mono bw1.size)
 have lw2 := q2.size
 clear q2 bw1
 go_wp2_with fail
 (with_reducible refine (i_parse_ok _ (T) (by omega) HO.out).mono ?_); rintro e w3 ⟨b3, A3, n3, c3, rfl, h3, q3⟩
 replace x1a := x1a.b q3
 have bw3 := bw2.trans (q3.mono bw2.size)
 have lw3 := q3.size
 clear q3 bw2
 go_wp2_with fail
 (with_reducible refine (i_sign_e _ b3 A3 n3 c3 (valZ T) (T.length) ?_ (s) ?_ ?_).mono ?_); (exact (h3.belw ((Below.refl _ _).alloc (Nat.le_refl _) _)).iz); (exact HS.out); (omega); rintro e w4 ⟨rfl, hb4⟩
 have q4 := ((Below.refl _ _).alloc (Nat.le_refl _) _).trans (hb4.mono (by simp))
 replace h3 := h3.belw q4
 replace x1a := x1a.b q4
 have x4a : Blk w4 w3.heap.size 46 #[.bool b3, .slice A3 n3 c3] := (blkAt _ _ _ (by simp)).below hb4 (by simp)
 have bw4 := bw3.trans (q4.mono bw3.size)
 have lw4 : w3.heap.size + 1 ≤ w4.heap.size := by have := hb4.size; simp at this; omega
 clear q4 bw3
 go_wp2_with fail
 (with_reducible refine (trim_v _ ((y :: ys)) ((x :: xs)) (by omega) HX.out).mono ?_); rintro e w5 ⟨rfl, q5⟩
 replace h3 := h3.belw q5
 replace x1a := x1a.b q5
 replace x4a := x4a.b q5
 have bw5 := bw4.trans (q5.mono bw4.size)
 have lw5 := q5.size
 clear q5 bw4
 obtain ⟨cx1aa, cx1ab, cx1ac⟩ := x1a.c3
 obtain ⟨fx1aa, fx1ab, fx1ac⟩ := x1a.f3
 obtain ⟨lx1aa, lx1ab, lx1ac, lx1ad⟩ := lts0 x1a.lt
 go_wp2_with fail
 refine bodyPost_ret (v := .tuple #[.agg #[.bool false, .slice none 0 0, .slice none 0 0], .iface 77 (.int .i64 2)]) (by simp [results, Tryz.results101, go_sem, *] <;> first | rfl | exact ⟨rfl, rfl⟩) rfl ?_
 exact ⟨_, _, _, _, _, _, _, rfl, QV.zero _ _, (((bw5.sc w.heap.size 0 (by omega) (.bool false)).sc w.heap.size 1 (by omega) (.slice none 0 0)).sc w.heap.size 2 (by omega) (.slice none 0 0))⟩
theorem f_dec_ok_t (w : World) (F B : List UInt8) (hFB : F.length + B.length ≤ 64) (hm : headM F = true) (ho : okZ (tailS F) = true) (hz : 0 ≤ valZ (tailS F)) (hB : B ≠ []) (ha : B.all isDg = true) :
    Calls Tryz.prog 101 #[strV F, strV B] w (RetFe w .nilIface (decQ F B) 64) := by
  have hmm : headM F = true := hm
  obtain ⟨T, hT⟩ : ∃ T, tailS F = T := ⟨_, rfl⟩
  have HM := Lib.hid hmm
  have HT := Lib.hid hT
  have hTF : T.length ≤ F.length := by rw [← hT]; exact tailS_len F
  have hT6 : T.length ≤ 65536 := by omega
  have hB6 : B.length ≤ 1000000 := by omega
  have htlB := toList_v B
  have htl1 := toList_v []
  have hszB := size_v B
  have HO := Lib.hid (show okZ T = true by rw [← hT]; exact ho)
  have hs : 0 ≤ (valZ (tailS F)).sign := sign_nn hz
  obtain ⟨s, hs1⟩ : ∃ s, (valZ T).sign = s := ⟨_, rfl⟩
  have es : (s < 0) = False := by simp; rw [← hs1, ← hT]; exact hs
  have HS := Lib.hid hs1
  have HX := Lib.hid (trim_dg.2 ha)
  obtain ⟨X, hX⟩ : ∃ X : Nat, valZ T = (X : Int) := ⟨(valZ T).toNat, by rw [← hT]; omega⟩
  obtain ⟨J, hJ, hX2⟩ : ∃ J, J ≤ T.length ∧ X < 10 ^ J := dec_lt (by rw [← hT]; exact ho) hX
  have HA := Lib.hid ha
  have HX3 := Lib.hid (And.intro hX2 (show J + B.length ≤ 64 by omega))
  have HX2 := Lib.hid hX
  have HQ := Lib.hid (show Rat.divInt (-NI (X : Int) B B.length) ((10 ^ B.length : Nat) : Int) = decQ F B by
    unfold decQ decN; rw [hm, hT, hX, NI_len]; push_cast; rfl)
  have hB64 : B.length ≤ 64 := by omega
  have HSQ := Lib.hid (show Sz (decQ F B) 64 by
    rw [← HQ.out]
    exact Sz_divInt (by rw [Int.natAbs_neg]; exact NI_lt HX3.out.1 ha (Nat.le_refl _) HX3.out.2) (ten_lt hB64) (by decide))
  clear hmm hm hT ho hs hs1 ha hz hX hX2 hJ
  obtain ⟨y, ys, hyy⟩ := List.exists_cons_of_ne_nil hB
  have hBe : ((⟨B.toArray⟩ : ByteArray) == ⟨#[]⟩) = false := by rw [hyy]; rfl
  have hBl : (B == []) = false := by rw [hyy]; rfl
  have hBp : 0 < B.length := by rw [hyy]; simp
  clear hyy
  go_enter Tryz.func101, Tryz.ntmps101
  go_wp2_with fail
  (with_reducible refine (prefix_v _ (F) true HM.out).mono ?_); rintro e w1 ⟨rfl, hb1⟩
  have q1 := ((Below.refl _ _).alloc (Nat.le_refl _) _).trans (hb1.mono (by simp))
  have x1a : Blk w1 w.heap.size 24 #[.bool false, .slice none 0 0, .slice none 0 0] := (blkAt _ _ _ (by simp)).below hb1 (by simp)
  have bw1 := (brefl w).trans (q1.mono (brefl w).size)
  have lw1 : w.heap.size + 1 ≤ w1.heap.size := by have := hb1.size; simp at this; omega
  clear q1
  go_wp2_with fail
  (with_reducible refine (tprefix_v _ (F) T HT.out).mono ?_); rintro e w2 ⟨rfl, q2⟩
  replace x1a := x1a.b q2
  have bw2 := bw1.trans (q2.mono bw1.size)
  have lw2 := q2.size
  clear q2 bw1
  go_wp2_with fail
  (with_reducible refine (i_parse_ok _ (T) (by omega) HO.out).mono ?_); rintro e w3 ⟨b3, A3, n3, c3, rfl, h3, q3⟩
  replace x1a := x1a.b q3
  have bw3 := bw2.trans (q3.mono bw2.size)
  have lw3 := q3.size
  clear q3 bw2
  go_wp2_with fail
  (with_reducible refine (i_sign_e _ b3 A3 n3 c3 (valZ T) (T.length) ?_ (s) ?_ ?_).mono ?_); (exact (h3.belw ((Below.refl _ _).alloc (Nat.le_refl _) _)).iz); (exact HS.out); (omega); rintro e w4 ⟨rfl, hb4⟩
  have q4 := ((Below.refl _ _).alloc (Nat.le_refl _) _).trans (hb4.mono (by simp))
  replace h3 := h3.belw q4
  replace x1a := x1a.b q4
  have x4a : Blk w4 w3.heap.size 46 #[.bool b3, .slice A3 n3 c3] := (blkAt _ _ _ (by simp)).below hb4 (by simp)
  have bw4 := bw3.trans (q4.mono bw3.size)
  have lw4 : w3.heap.size + 1 ≤ w4.heap.size := by have := hb4.size; simp at this; omega
  clear q4 bw3
  go_wp2_with fail
  (with_reducible refine (trim_v _ (B) ([]) (by omega) HX.out).mono ?_); rintro e w5 ⟨rfl, q5⟩
  replace h3 := h3.belw q5
  replace x1a := x1a.b q5
  replace x4a := x4a.b q5
  have bw5 := bw4.trans (q5.mono bw4.size)
  have lw5 := q5.size
  clear q5 bw4
  go_wp2_with fail
  (with_reducible refine (i_of1 _ (10) ?_ ?_).mono ?_); (first | omega | decide | assumption); (first | omega | decide | assumption); rintro e w6 ⟨b6, A6, n6, c6, rfl, h6, q6⟩
  replace h3 := h3.belw q6
  replace x1a := x1a.b q6
  replace x4a := x4a.b q6
  have bw6 := bw5.trans (q6.mono bw5.size)
  have lw6 := q6.size
  clear q6 bw5
  go_wp2_with fail
  (with_reducible refine (f_one _).mono ?_); rintro e w7 ⟨b7, A7, n7, c7, rfl, h7, q7⟩
  replace h3 := h3.belw q7
  replace h6 := h6.belw q7
  replace x1a := x1a.b q7
  replace x4a := x4a.b q7
  have bw7 := bw6.trans (q7.mono bw6.size)
  have lw7 := q7.size
  clear q7 bw6
  go_wp2_with fail
  have p8 := (((Kp.refl w7).alloc (.cells #[.bool b6, .slice A6 n6 c6] 46)).alloc (.cells #[.bool b7, .slice A7 n7 c7] 46))
  have bw8 := ((bw7.alloc (by first | omega | (simp <;> omega)) (.cells #[.bool b6, .slice A6 n6 c6] 46)).alloc (by first | omega | (simp <;> omega)) (.cells #[.bool b7, .slice A7 n7 c7] 46))
  have x8a : Blk ((w7.alloc (.cells #[.bool b6, .slice A6 n6 c6] 46)).alloc (.cells #[.bool b7, .slice A7 n7 c7] 46)) w7.heap.size 46 #[.bool b6, .slice A6 n6 c6] := ((blkAt _ _ _ (by simp)).alloc (.cells #[.bool b7, .slice A7 n7 c7] 46))
  have x8b : Blk ((w7.alloc (.cells #[.bool b6, .slice A6 n6 c6] 46)).alloc (.cells #[.bool b7, .slice A7 n7 c7] 46)) (w7.heap.size + 1) 46 #[.bool b7, .slice A7 n7 c7] := (blkAt _ _ _ (by simp))
  replace x1a := ((x1a.alloc (.cells #[.bool b6, .slice A6 n6 c6] 46)).alloc (.cells #[.bool b7, .slice A7 n7 c7] 46))
  replace x4a := ((x4a.alloc (.cells #[.bool b6, .slice A6 n6 c6] 46)).alloc (.cells #[.bool b7, .slice A7 n7 c7] 46))
  have lw8 : w7.heap.size + 2 ≤ ((w7.alloc (.cells #[.bool b6, .slice A6 n6 c6] 46)).alloc (.cells #[.bool b7, .slice A7 n7 c7] 46)).heap.size := by simp
  generalize hE8 : ((w7.alloc (.cells #[.bool b6, .slice A6 n6 c6] 46)).alloc (.cells #[.bool b7, .slice A7 n7 c7] 46)) = w8 at p8 bw8 lw8 x8a x8b x1a x4a ⊢
  clear hE8
  replace h3 := h3.keep p8
  replace h6 := h6.keep p8
  replace h7 := h7.keep p8
  clear bw7
  go_loopw [43] (fun iv wr => ∃ (i : Nat) (bn : Bool) (An : Option Addr) (nn cn : Nat) (bs : Bool) (As : Option Addr) (ns cs : Nat), iv = .int .i64 (i : Nat) ∧ i ≤ B.length ∧ IV wr bn An nn cn (NI (X : Int) B i) 64 ∧ IV wr bs As ns cs ((10 ^ i : Nat) : Int) 64 ∧ Kp w8 wr ∧ Below w.heap.size w wr ∧ w8.heap.size ≤ wr.heap.size ∧ Blk wr w.heap.size 24 #[.bool false, .slice none 0 0, .slice none 0 0] ∧ Blk wr w3.heap.size 46 #[.bool bn, .slice An nn cn] ∧ Blk wr w7.heap.size 46 #[.bool b6, .slice A6 n6 c6] ∧ Blk wr (w7.heap.size + 1) 46 #[.bool bs, .slice As ns cs]) (fun iv _ => B.length - (intOf iv).toNat)
  case atStart => exact ⟨0, b3, A3, n3, c3, b7, A7, n7, c7, rfl, Nat.zero_le _, (by rw [NI_zero, ← HX2.out]; exact h3.mono (by omega)), (by rw [show ((10 ^ 0 : Nat) : Int) = 1 from rfl]; exact h7.mono (by omega)), Kp.refl _, bw8, Nat.le_refl _, x1a, x4a, x8a, x8b⟩
  case round =>
    clear x1a
    clear x4a
    clear x8a
    clear x8b
    obtain ⟨i, bn, An, nn, cn, bs, As, ns, cs, rfl, hi, ho, hp, hkp, hbw, hlw, x1a, x4a, x8a, x8b⟩ := hrel
    replace h3 := h3.keep hkp
    replace h6 := h6.keep hkp
    replace h7 := h7.keep hkp
    by_cases hlt : i < B.length
    · obtain ⟨d, hd⟩ : ∃ d, B[i] = d := ⟨_, rfl⟩
      have hdg : isDg d = true := List.all_eq_true.1 HA.out d (by rw [← hd]; exact List.getElem_mem _)
      have hget : ∀ h, (⟨B.toArray⟩ : ByteArray)[i]'h = d := fun h => hd
      have h8 : 48 ≤ d.toNat ∧ d.toNat ≤ 57 := by unfold isDg at hdg; rw [Bool.and_eq_true, decide_eq_true_eq, decide_eq_true_eq] at hdg; exact hdg
      obtain ⟨dn, hdn⟩ : ∃ dn, d.toNat = dn := ⟨_, rfl⟩
      obtain ⟨v, hv⟩ : ∃ v, dn - 48 = v := ⟨_, rfl⟩
      rw [hdn] at h8
      have e1 : (dn : Int) - 48 = (v : Int) := by omega
      have hv9 : v ≤ 9 := by omega
      have h81 := h8.1
      have h82 := h8.2
      have HD : dval d = v := by unfold dval; rw [hdn]; exact hv
      have HNI := Lib.hid (show NI (X : Int) B i * 10 + (v : Nat) = NI (X : Int) B (i + 1) by rw [← NI_succ _ _ _ hlt, hd, HD])
      have HB1 := Lib.hid (NI_lt HX3.out.1 HA.out (show i + 1 ≤ B.length by omega) HX3.out.2)
      have HB2 := Lib.hid (ten_lt (i := i + 1) (by omega))
      have hw8 : IntKind.u8.wrap (v : Int) = (v : Int) := IntWalk.u8_in _ ⟨by omega, by omega⟩
      have hw64 : IntKind.i64.wrap (v : Int) = (v : Int) := IntWalk.i64_in _ ⟨by omega, by omega⟩
      have hi0 : (0 : Int) ≤ (i : Int) := by omega
      have hiL : (i : Int) < (B.length : Int) := by omega
      clear hd hdg h8 hv HD
      obtain ⟨cx4aa, cx4ab⟩ := x4a.c2
      obtain ⟨lx4aa, lx4ab, lx4ac, lx4ad⟩ := lts0 x4a.lt
      obtain ⟨cx8aa, cx8ab⟩ := x8a.c2
      obtain ⟨lx8aa, lx8ab, lx8ac, lx8ad⟩ := lts0 x8a.lt
      go_wp2_with fail
      refine wp_region_lin (B := w.heap.size) (fr := fun xf => ⟨List.toArray (strV T :: strV B :: undef :: undef :: .pointer (some ⟨w.heap.size, 0, none⟩) :: .nilIface :: .bool true :: .pointer (some ⟨w3.heap.size, 0, none⟩) :: .nilIface :: .pointer (some ⟨w7.heap.size, 0, none⟩) :: .pointer (some ⟨w7.heap.size + 1, 0, none⟩) :: .int .i64 (i : Nat) :: strV F :: .bool true :: strV F :: strV T :: .tuple #[.agg #[.bool b3, .slice A3 n3 c3], .nilIface] :: strV T :: .tuple #[.agg #[.bool b3, .slice A3 n3 c3], .nilIface] :: .agg #[.bool b3, .slice A3 n3 c3] :: .nilIface :: .nilIface :: .bool false :: .bool false :: .agg #[.bool b3, .slice A3 n3 c3] :: .int .i64 s :: .bool false :: .bool false :: .bool false :: strV B :: .bool false :: .bool false :: .bool false :: strV B :: strV [] :: .bool false :: .bool false :: undef :: undef :: .agg #[.bool b6, .slice A6 n6 c6] :: .agg #[.bool b7, .slice A7 n7 c7] :: strV B :: .int .i64 (B.length : Nat) :: .int .i64 (i : Nat) :: .bool true :: .int .i64 (i : Nat) :: xf 0 :: xf 1 :: xf 2 :: xf 3 :: xf 4 :: xf 5 :: xf 6 :: xf 7 :: xf 8 :: xf 9 :: u56 :: u57 :: u58 :: u59 :: undef :: undef :: undef :: undef :: undef :: undef :: []), []⟩) (R := fun ri => List.getD ((PEq (.agg #[.bool bn, .slice An nn cn])) :: (PEq (.agg #[.bool b6, .slice A6 n6 c6])) :: (VI ((NI (X : Int) B i) * ((10 : Int))) ((64) + (1))) :: (PEq (strV B)) :: (PEq (.int .i64 (i : Nat))) :: (PEq (.int .u8 (dn : Nat))) :: (PEq (.int .u8 (v : Nat))) :: (PEq (.int .i64 (v : Nat))) :: (VI (((v : Nat) : Int)) (1)) :: (VI (((NI (X : Int) B i) * ((10 : Int))) + (((v : Nat) : Int))) (((64) + (1)) + (1) + 1)) :: PAny :: []) ri (fun _ _ => True)) (es := []) (ow := [⟨w.heap.size, 11, 0, 24, #[.bool false, .slice none 0 0, .slice none 0 0], CAny⟩, ⟨w3.heap.size, 10, 0, 46, #[.bool bn, .slice An nn cn], CI (((NI (X : Int) B i) * ((10 : Int))) + (((v : Nat) : Int))) (((64) + (1)) + (1) + 1)⟩, ⟨w7.heap.size, 11, 0, 46, #[.bool b6, .slice A6 n6 c6], CAny⟩, ⟨w7.heap.size + 1, 11, 0, 46, #[.bool bs, .slice As ns cs], CAny⟩]) (x0 := (upd (upd (upd (upd (upd (upd (upd (upd (upd (upd (fun _ => undef) 0 (u46)) 1 (u47)) 2 (u48)) 3 (u49)) 4 (u50)) 5 (u51)) 6 (u52)) 7 (u53)) 8 (u54)) 9 (u55))) (by kernel_rfl)
        (each_of ⟨fun _ _ => rfl, fun _ _ => rfl, fun _ _ => rfl, fun _ _ => rfl, fun _ _ => rfl, fun _ _ => rfl, fun _ _ => rfl, fun _ _ => rfl, fun _ _ => rfl, fun _ _ => rfl, fun _ _ => rfl, trivial⟩) (each_of (acyc_from _ 0 (by kernel_rfl))) (AllStab.get _ ⟨stEq _, stEq _, stI _ _, stEq _, stEq _, stEq _, stEq _, stEq _, stI _ _, stI _ _, stAny, trivial⟩)
        (fun _ h => nomatch h) (List.forall_mem_cons.2 ⟨scAny, List.forall_mem_cons.2 ⟨scI _ _, List.forall_mem_cons.2 ⟨scAny, List.forall_mem_cons.2 ⟨scAny, fun _ h => nomatch h⟩⟩⟩⟩) (fun _ h => nomatch h) hbw.size
        (List.forall_mem_cons.2 ⟨⟨x1a, by show w.heap.size ≤ w.heap.size; omega⟩, List.forall_mem_cons.2 ⟨⟨x4a, by show w.heap.size ≤ w3.heap.size; omega⟩, List.forall_mem_cons.2 ⟨⟨x8a, by show w.heap.size ≤ w7.heap.size; omega⟩, List.forall_mem_cons.2 ⟨⟨x8b, by show w.heap.size ≤ w7.heap.size + 1; omega⟩, fun _ h => nomatch h⟩⟩⟩⟩) (ownDist (by simp <;> omega))
        (each_of ⟨?_, ?_, ?_, ?_, ?_, ?_, ?_, ?_, ?_, ?_, ?_, trivial⟩) ?_
      · exact .inl ⟨by simp, by simp, fun xf wq hk hbl hd K hK => by
          have y : Blk wq w3.heap.size 46 #[.bool bn, .slice An nn cn] := hbl _ (List.Mem.tail _ (List.Mem.head _)) (by simp [Region.binds])
          obtain ⟨hcl0, hcl1⟩ := y.c2
          (try dsimp only)
          go_simp
          exact hK.out (.agg #[.bool bn, .slice An nn cn]) _ rfl (brefl _)⟩
      · exact .inl ⟨by simp, by simp, fun xf wq hk hbl hd K hK => by
          have y : Blk wq w7.heap.size 46 #[.bool b6, .slice A6 n6 c6] := hbl _ (List.Mem.tail _ (List.Mem.tail _ (List.Mem.head _))) (by simp [Region.binds])
          obtain ⟨hcl0, hcl1⟩ := y.c2
          (try dsimp only)
          go_simp
          exact hK.out (.agg #[.bool b6, .slice A6 n6 c6]) _ rfl (brefl _)⟩
      · exact .inl ⟨by simp, by simp, fun xf wq hk hbl hd K hK => by
          have dq0 : xf 0 = .agg #[.bool bn, .slice An nn cn] := hd ⟨0, .data⟩ (by simp) rfl
          have dq1 : xf 1 = .agg #[.bool b6, .slice A6 n6 c6] := hd ⟨1, .data⟩ (by simp) rfl
          (try dsimp only); (try simp only [dq0, dq1])
          go_simp
          go_at_call 106
          (with_reducible refine (i_mul _ bn An nn cn (NI (X : Int) B i) (64) ?_ b6 A6 n6 c6 ((10 : Int)) (1) ?_ ?_).mono ?_); (exact (ho.keep hk).iz); (exact (h6.keep hk).iz); (first | omega | decide | assumption); rintro e wr ⟨b10, A10, n10, c10, rfl, h10, hbr⟩
          have hz := hK.out _ _ ⟨b10, A10, n10, c10, rfl, h10⟩ hbr
          simp only [dq0, dq1] at hz
          exact hz⟩
      · exact .inl ⟨by simp, by simp, fun xf wq hk hbl hd K hK => by
          (try dsimp only)
          go_simp
          exact hK.out (strV B) _ rfl (brefl _)⟩
      · exact .inl ⟨by simp, by simp, fun xf wq hk hbl hd K hK => by
          (try dsimp only)
          go_simp
          exact hK.out (.int .i64 (i : Nat)) _ rfl (brefl _)⟩
      · exact .inl ⟨by simp, by simp, fun xf wq hk hbl hd K hK => by
          have dq3 : xf 3 = strV B := hd ⟨3, .data⟩ (by simp) rfl
          have dq4 : xf 4 = .int .i64 (i : Nat) := hd ⟨4, .data⟩ (by simp) rfl
          (try dsimp only); (try simp only [dq3, dq4])
          go_simp
          have hz := hK.out (.int .u8 (dn : Nat)) _ rfl (brefl _)
          simp only [dq3, dq4] at hz
          exact hz⟩
      · exact .inl ⟨by simp, by simp, fun xf wq hk hbl hd K hK => by
          have dq5 : xf 5 = .int .u8 (dn : Nat) := hd ⟨5, .data⟩ (by simp) rfl
          (try dsimp only); (try simp only [dq5])
          go_simp
          have hz := hK.out (.int .u8 (v : Nat)) _ rfl (brefl _)
          simp only [dq5] at hz
          exact hz⟩
      · exact .inl ⟨by simp, by simp, fun xf wq hk hbl hd K hK => by
          have dq6 : xf 6 = .int .u8 (v : Nat) := hd ⟨6, .data⟩ (by simp) rfl
          (try dsimp only); (try simp only [dq6])
          go_simp
          have hz := hK.out (.int .i64 (v : Nat)) _ rfl (brefl _)
          simp only [dq6] at hz
          exact hz⟩
      · exact .inl ⟨by simp, by simp, fun xf wq hk hbl hd K hK => by
          have dq7 : xf 7 = .int .i64 (v : Nat) := hd ⟨7, .data⟩ (by simp) rfl
          (try dsimp only); (try simp only [dq7])
          go_simp
          go_at_call 60
          (with_reducible refine (i_of1 _ ((v : Nat)) ?_ ?_).mono ?_); (first | omega | decide | assumption); (first | omega | decide | assumption); rintro e wr ⟨b11, A11, n11, c11, rfl, h11, hbr⟩
          have hz := hK.out _ _ ⟨b11, A11, n11, c11, rfl, h11⟩ hbr
          simp only [dq7] at hz
          exact hz⟩
      · exact .inl ⟨by simp, by simp, fun xf wq hk hbl hd K hK => by
          obtain ⟨b10, A10, n10, c10, dq2, h10⟩ : VI ((NI (X : Int) B i) * ((10 : Int))) ((64) + (1)) (xf 2) wq := hd ⟨2, .data⟩ (by simp) rfl
          obtain ⟨b11, A11, n11, c11, dq8, h11⟩ : VI (((v : Nat) : Int)) (1) (xf 8) wq := hd ⟨8, .data⟩ (by simp) rfl
          (try dsimp only); (try simp only [dq2, dq8])
          go_simp
          go_at_call 107
          (with_reducible refine (i_add _ b10 A10 n10 c10 ((NI (X : Int) B i) * ((10 : Int))) ((64) + (1)) ?_ b11 A11 n11 c11 (((v : Nat) : Int)) (1) ?_ ?_).mono ?_); (exact h10.iz); (exact h11.iz); (first | omega | decide | assumption); rintro e wr ⟨b12, A12, n12, c12, rfl, h12, hbr⟩
          have hz := hK.out _ _ ⟨b12, A12, n12, c12, rfl, h12⟩ hbr
          simp only [dq2, dq8] at hz
          exact hz⟩
      · exact .inr (.inr (.inr ⟨⟨w3.heap.size, 10, 0, 46, #[.bool bn, .slice An nn cn], CI (((NI (X : Int) B i) * ((10 : Int))) + (((v : Nat) : Int))) (((64) + (1)) + (1) + 1)⟩, by simp, rfl, by simp, by simp, (show KT 46 = false by decide), fun _ _ => True.intro, fun xf wq hblk hd => by
          obtain ⟨b12, A12, n12, c12, dq9, h12⟩ : VI (((NI (X : Int) B i) * ((10 : Int))) + (((v : Nat) : Int))) (((64) + (1)) + (1) + 1) (xf 9) wq := hd ⟨9, .data⟩ (by simp) rfl
          dsimp only at hblk
          refine ⟨[.bool b12, .slice A12 n12 c12], fun w' hk => ⟨b12, A12, n12, c12, rfl, h12.keep hk⟩, fun K hK => ?_⟩
          have hc0 : wq.cell? ⟨w3.heap.size, 0, none⟩ = some (.bool bn) := hblk.cell 0
          have hc1 : wq.cell? ⟨w3.heap.size, 1, none⟩ = some (.slice An nn cn) := hblk.cell 1
          have hf0 : wq.frozen? ⟨w3.heap.size, 0, none⟩ = false := hblk.frozen 0
          have hf1 : wq.frozen? ⟨w3.heap.size, 1, none⟩ = false := hblk.frozen 1
          (try dsimp only)
          simp only [dq9]
          go_simp
          have hz := hK.out undef
          simp only [dq9] at hz
          exact hz⟩))
      clear cx4aa cx4ab lx4aa lx4ab lx4ac lx4ad cx8aa cx8ab lx8aa lx8ab lx8ac lx8ad
      intro y9 w9 kq9 hbl9 lw9 how hrr hfl hds
      replace h6 := h6.keep kq9
      replace ho := ho.keep kq9
      replace hp := hp.keep kq9
      replace hkp := hkp.trans kq9
      obtain ⟨_, z9_0, ez, _⟩ := how _ (List.Mem.head _)
      obtain rfl := ez (by simp)
      dsimp only at z9_0
      obtain ⟨_, z9_1, _, ez⟩ := how _ (List.Mem.tail _ (List.Mem.head _))
      obtain ⟨b12, A12, n12, c12, rfl, h12⟩ := ez (by simp)
      dsimp only at z9_1
      obtain ⟨_, z9_2, ez, _⟩ := how _ (List.Mem.tail _ (List.Mem.tail _ (List.Mem.head _)))
      obtain rfl := ez (by simp)
      dsimp only at z9_2
      obtain ⟨_, z9_3, ez, _⟩ := how _ (List.Mem.tail _ (List.Mem.tail _ (List.Mem.tail _ (List.Mem.head _))))
      obtain rfl := ez (by simp)
      dsimp only at z9_3
      (try dsimp only)
      clear hrr hfl how hds 
      clear x1a x4a x8a x8b
      have bw9 := hbw.trans hbl9
      have cz9_1_0 : w9.cell? ⟨w3.heap.size, 0, none⟩ = some (.bool b12) := z9_1.cell 0
      have cz9_1_1 : w9.cell? ⟨w3.heap.size, 1, none⟩ = some (.slice A12 n12 c12) := z9_1.cell 1
      obtain ⟨lz9_1_0, lz9_1_1, lz9_1_2, lz9_1_3⟩ := lts0 z9_1.lt
      have cz9_2_0 : w9.cell? ⟨w7.heap.size, 0, none⟩ = some (.bool b6) := z9_2.cell 0
      have cz9_2_1 : w9.cell? ⟨w7.heap.size, 1, none⟩ = some (.slice A6 n6 c6) := z9_2.cell 1
      obtain ⟨lz9_2_0, lz9_2_1, lz9_2_2, lz9_2_3⟩ := lts0 z9_2.lt
      have cz9_3_0 : w9.cell? ⟨w7.heap.size + 1, 0, none⟩ = some (.bool bs) := z9_3.cell 0
      have cz9_3_1 : w9.cell? ⟨w7.heap.size + 1, 1, none⟩ = some (.slice As ns cs) := z9_3.cell 1
      obtain ⟨lz9_3_0, lz9_3_1, lz9_3_2, lz9_3_3⟩ := lts1 z9_3.lt
      go_wp2_with fail
      (with_reducible refine (i_mul _ bs As ns cs (((10 ^ i : Nat) : Int)) (64) ?_ b6 A6 n6 c6 ((10 : Int)) (1) ?_ ?_).mono ?_); (exact hp.iz); (exact h6.iz); (first | omega | decide | assumption); rintro e w14 ⟨b14, A14, n14, c14, rfl, h14, q14⟩
      clear cz9_1_0 cz9_1_1 lz9_1_0 lz9_1_1 lz9_1_2 lz9_1_3 cz9_2_0 cz9_2_1 lz9_2_0 lz9_2_1 lz9_2_2 lz9_2_3 cz9_3_0 cz9_3_1 lz9_3_0 lz9_3_1 lz9_3_2 lz9_3_3
      replace h6 := h6.belw q14
      replace ho := ho.belw q14
      replace hp := hp.belw q14
      replace h12 := h12.belw q14
      replace hkp := hkp.below q14
      replace z9_0 := z9_0.b q14
      replace z9_1 := z9_1.b q14
      replace z9_2 := z9_2.b q14
      replace z9_3 := z9_3.b q14
      have bw14 := bw9.trans (q14.mono bw9.size)
      have lw14 := q14.size
      clear q14 bw9
      obtain ⟨cz9_3_0, cz9_3_1⟩ := z9_3.c2
      obtain ⟨fz9_3_0, fz9_3_1⟩ := z9_3.f2
      obtain ⟨lz9_3_0, lz9_3_1, lz9_3_2, lz9_3_3⟩ := lts1 z9_3.lt
      go_wp2_with fail
      clear cz9_3_0 fz9_3_0 cz9_3_1 fz9_3_1 lz9_3_0 lz9_3_1 lz9_3_2 lz9_3_3
      have p15 := (((Kp.refl w14).sb (w7.heap.size + 1) 0 z9_3.box (by decide) (.bool b14)).sb (w7.heap.size + 1) 1 (z9_3.box.set ⟨w7.heap.size + 1, 0, none⟩ (.bool b14)) (by decide) (.slice A14 n14 c14))
      have bw15 := ((bw14.sc (w7.heap.size + 1) 0 (by omega) (.bool b14)).sc (w7.heap.size + 1) 1 (by omega) (.slice A14 n14 c14))
      replace z9_0 : Blk ((w14.setCell ⟨w7.heap.size + 1, 0, none⟩ (.bool b14)).setCell ⟨w7.heap.size + 1, 1, none⟩ (.slice A14 n14 c14)) w.heap.size 24 #[.bool false, .slice none 0 0, .slice none 0 0] := ((z9_0.fr (w7.heap.size + 1) 0 (by omega) (.bool b14)).fr (w7.heap.size + 1) 1 (by omega) (.slice A14 n14 c14))
      replace z9_1 : Blk ((w14.setCell ⟨w7.heap.size + 1, 0, none⟩ (.bool b14)).setCell ⟨w7.heap.size + 1, 1, none⟩ (.slice A14 n14 c14)) w3.heap.size 46 #[.bool b12, .slice A12 n12 c12] := ((z9_1.fr (w7.heap.size + 1) 0 (by omega) (.bool b14)).fr (w7.heap.size + 1) 1 (by omega) (.slice A14 n14 c14))
      replace z9_2 : Blk ((w14.setCell ⟨w7.heap.size + 1, 0, none⟩ (.bool b14)).setCell ⟨w7.heap.size + 1, 1, none⟩ (.slice A14 n14 c14)) w7.heap.size 46 #[.bool b6, .slice A6 n6 c6] := ((z9_2.fr (w7.heap.size + 1) 0 (by omega) (.bool b14)).fr (w7.heap.size + 1) 1 (by omega) (.slice A14 n14 c14))
      replace z9_3 : Blk ((w14.setCell ⟨w7.heap.size + 1, 0, none⟩ (.bool b14)).setCell ⟨w7.heap.size + 1, 1, none⟩ (.slice A14 n14 c14)) (w7.heap.size + 1) 46 #[.bool b14, .slice A14 n14 c14] := ((z9_3.set_at 0 (.bool b14) #[.bool b14, .slice As ns cs] (by simp)).set_at 1 (.slice A14 n14 c14) #[.bool b14, .slice A14 n14 c14] (by simp))
      have lw15 : w14.heap.size + 0 ≤ ((w14.setCell ⟨w7.heap.size + 1, 0, none⟩ (.bool b14)).setCell ⟨w7.heap.size + 1, 1, none⟩ (.slice A14 n14 c14)).heap.size := by simp
      generalize hE15 : ((w14.setCell ⟨w7.heap.size + 1, 0, none⟩ (.bool b14)).setCell ⟨w7.heap.size + 1, 1, none⟩ (.slice A14 n14 c14)) = w15 at p15 bw15 lw15 z9_0 z9_1 z9_2 z9_3 ⊢
      clear hE15
      replace h6 := h6.keep p15
      replace ho := ho.keep p15
      replace hp := hp.keep p15
      replace h12 := h12.keep p15
      replace h14 := h14.keep p15
      replace hkp := hkp.trans p15
      clear bw14
      have hN2 := h12.resz (K := 64) (by rw [HNI.out]; exact HB1.out)
      rw [HNI.out] at hN2
      have hS2 := h14.resz (K := 64) (by rw [ten_succ]; exact HB2.out)
      rw [ten_succ] at hS2
      go_roundw
      case rel => exact ⟨i + 1, b12, A12, n12, c12, b14, A14, n14, c14, by go_num, by omega, hN2, hS2, hkp, bw15, by omega, z9_0, z9_1, z9_2, z9_3⟩
      case measure => simp [intOf]; omega
    · have hiN : i = B.length := by omega
      subst hiN
      obtain ⟨cx4aa, cx4ab⟩ := x4a.c2
      obtain ⟨lx4aa, lx4ab, lx4ac, lx4ad⟩ := lts0 x4a.lt
      go_wp2_with fail
      (with_reducible refine (i_neg _ bn An nn cn (NI (X : Int) B B.length) (64) ?_ ?_).mono ?_); (exact ho.iz); (first | omega | decide | assumption); rintro e w9 ⟨b9, A9, n9, c9, rfl, h9, q9⟩
      clear cx4aa cx4ab lx4aa lx4ab lx4ac lx4ad
      replace h6 := h6.belw q9
      replace ho := ho.belw q9
      replace hp := hp.belw q9
      replace hkp := hkp.below q9
      replace x1a := x1a.b q9
      replace x4a := x4a.b q9
      replace x8a := x8a.b q9
      replace x8b := x8b.b q9
      have bw9 := hbw.trans (q9.mono hbw.size)
      have lw9 := q9.size
      clear q9
      obtain ⟨cx4aa, cx4ab⟩ := x4a.c2
      obtain ⟨fx4aa, fx4ab⟩ := x4a.f2
      obtain ⟨lx4aa, lx4ab, lx4ac, lx4ad⟩ := lts0 x4a.lt
      obtain ⟨cx8ba, cx8bb⟩ := x8b.c2
      obtain ⟨lx8ba, lx8bb, lx8bc, lx8bd⟩ := lts1 x8b.lt
      go_wp2_with fail
      clear cx4aa fx4aa cx4ab fx4ab lx4aa lx4ab lx4ac lx4ad cx8ba cx8bb lx8ba lx8bb lx8bc lx8bd
      have p10 := (((Kp.refl w9).sb w3.heap.size 0 x4a.box (by decide) (.bool b9)).sb w3.heap.size 1 (x4a.box.set ⟨w3.heap.size, 0, none⟩ (.bool b9)) (by decide) (.slice A9 n9 c9))
      have bw10 := ((bw9.sc w3.heap.size 0 (by omega) (.bool b9)).sc w3.heap.size 1 (by omega) (.slice A9 n9 c9))
      replace x1a := ((x1a.fr w3.heap.size 0 (by omega) (.bool b9)).fr w3.heap.size 1 (by omega) (.slice A9 n9 c9))
      replace x4a := ((x4a.set_at 0 (.bool b9) #[.bool b9, .slice An nn cn] (by simp)).set_at 1 (.slice A9 n9 c9) #[.bool b9, .slice A9 n9 c9] (by simp))
      replace x8a := ((x8a.fr w3.heap.size 0 (by omega) (.bool b9)).fr w3.heap.size 1 (by omega) (.slice A9 n9 c9))
      replace x8b := ((x8b.fr w3.heap.size 0 (by omega) (.bool b9)).fr w3.heap.size 1 (by omega) (.slice A9 n9 c9))
      have lw10 : w9.heap.size + 0 ≤ ((w9.setCell ⟨w3.heap.size, 0, none⟩ (.bool b9)).setCell ⟨w3.heap.size, 1, none⟩ (.slice A9 n9 c9)).heap.size := by simp
      generalize hE10 : ((w9.setCell ⟨w3.heap.size, 0, none⟩ (.bool b9)).setCell ⟨w3.heap.size, 1, none⟩ (.slice A9 n9 c9)) = w10 at p10 bw10 lw10 x1a x4a x8a x8b ⊢
      clear hE10
      replace h6 := h6.keep p10
      replace ho := ho.keep p10
      replace hp := hp.keep p10
      replace h9 := h9.keep p10
      replace hkp := hkp.trans p10
      clear bw9
      (with_reducible refine (f_form _ b9 A9 n9 c9 (-(NI (X : Int) B B.length)) ((64)) ?_ bs As ns cs (((10 ^ B.length : Nat) : Int)) (64) ?_ (decQ F B) 64 ?_ ?_ ?_ ?_).mono ?_); (exact h9.iz); (exact hp.iz); (exact ten_ne _); (exact HQ.out); (exact HSQ.out); (omega); rintro e w11 ⟨b11, A11, n11, c11, A'11, n'11, c'11, rfl, h11, q11⟩
      replace h6 := h6.belw q11
      replace ho := ho.belw q11
      replace hp := hp.belw q11
      replace h9 := h9.belw q11
      replace hkp := hkp.below q11
      replace x1a := x1a.b q11
      replace x4a := x4a.b q11
      replace x8a := x8a.b q11
      replace x8b := x8b.b q11
      have bw11 := bw10.trans (q11.mono bw10.size)
      have lw11 := q11.size
      clear q11 bw10
      obtain ⟨cx1aa, cx1ab, cx1ac⟩ := x1a.c3
      obtain ⟨fx1aa, fx1ab, fx1ac⟩ := x1a.f3
      obtain ⟨lx1aa, lx1ab, lx1ac, lx1ad⟩ := lts0 x1a.lt
      go_wp2_with fail
      refine bodyPost_ret (v := .tuple #[.agg #[.bool b11, .slice A11 n11 c11, .slice A'11 n'11 c'11], .nilIface]) (by simp [results, Tryz.results101, go_sem, *] <;> first | rfl | exact ⟨rfl, rfl⟩) rfl ?_
      exact ⟨_, _, _, _, _, _, _, rfl, (h11).keep ((((Kp.refl w11).sb w.heap.size 0 x1a.box (by decide) (.bool b11)).sb w.heap.size 1 (x1a.box.set ⟨w.heap.size, 0, none⟩ (.bool b11)) (by decide) (.slice A11 n11 c11)).sb w.heap.size 2 ((x1a.box.set ⟨w.heap.size, 0, none⟩ (.bool b11)).set ⟨w.heap.size, 1, none⟩ (.slice A11 n11 c11)) (by decide) (.slice A'11 n'11 c'11)), (((bw11.sc w.heap.size 0 (by omega) (.bool b11)).sc w.heap.size 1 (by omega) (.slice A11 n11 c11)).sc w.heap.size 2 (by omega) (.slice A'11 n'11 c'11))⟩
theorem f_dec_ok_f (w : World) (F B : List UInt8) (hFB : F.length + B.length ≤ 64) (hm : headM F = false) (ho : okZ (tailS F) = true) (hz : 0 ≤ valZ (tailS F)) (hB : B ≠ []) (ha : B.all isDg = true) :
    Calls Tryz.prog 101 #[strV F, strV B] w (RetFe w .nilIface (decQ F B) 64) := by
  have hmm : headM F = false := hm
  obtain ⟨T, hT⟩ : ∃ T, tailS F = T := ⟨_, rfl⟩
  have HM := Lib.hid hmm
  have HT := Lib.hid hT
  have hTF : T.length ≤ F.length := by rw [← hT]; exact tailS_len F
  have hT6 : T.length ≤ 65536 := by omega
  have hB6 : B.length ≤ 1000000 := by omega
  have htlB := toList_v B
  have htl1 := toList_v []
  have hszB := size_v B
  have HO := Lib.hid (show okZ T = true by rw [← hT]; exact ho)
  have hs : 0 ≤ (valZ (tailS F)).sign := sign_nn hz
  obtain ⟨s, hs1⟩ : ∃ s, (valZ T).sign = s := ⟨_, rfl⟩
  have es : (s < 0) = False := by simp; rw [← hs1, ← hT]; exact hs
  have HS := Lib.hid hs1
  have HX := Lib.hid (trim_dg.2 ha)
  obtain ⟨X, hX⟩ : ∃ X : Nat, valZ T = (X : Int) := ⟨(valZ T).toNat, by rw [← hT]; omega⟩
  obtain ⟨J, hJ, hX2⟩ : ∃ J, J ≤ T.length ∧ X < 10 ^ J := dec_lt (by rw [← hT]; exact ho) hX
  have HA := Lib.hid ha
  have HX3 := Lib.hid (And.intro hX2 (show J + B.length ≤ 64 by omega))
  have HX2 := Lib.hid hX
  have HQ := Lib.hid (show Rat.divInt (NI (X : Int) B B.length) ((10 ^ B.length : Nat) : Int) = decQ F B by
    unfold decQ decN; rw [hm, hT, hX, NI_len]; push_cast; rfl)
  have hB64 : B.length ≤ 64 := by omega
  have HSQ := Lib.hid (show Sz (decQ F B) 64 by
    rw [← HQ.out]
    exact Sz_divInt (by exact NI_lt HX3.out.1 ha (Nat.le_refl _) HX3.out.2) (ten_lt hB64) (by decide))
  clear hmm hm hT ho hs hs1 ha hz hX hX2 hJ
  obtain ⟨y, ys, hyy⟩ := List.exists_cons_of_ne_nil hB
  have hBe : ((⟨B.toArray⟩ : ByteArray) == ⟨#[]⟩) = false := by rw [hyy]; rfl
  have hBl : (B == []) = false := by rw [hyy]; rfl
  have hBp : 0 < B.length := by rw [hyy]; simp
  clear hyy
  go_enter Tryz.func101, Tryz.ntmps101
  go_wp2_with fail
  (with_reducible refine (prefix_v _ (F) false HM.out).mono ?_); rintro e w1 ⟨rfl, hb1⟩
  have q1 := ((Below.refl _ _).alloc (Nat.le_refl _) _).trans (hb1.mono (by simp))
  have x1a : Blk w1 w.heap.size 24 #[.bool false, .slice none 0 0, .slice none 0 0] := (blkAt _ _ _ (by simp)).below hb1 (by simp)
  have bw1 := (brefl w).trans (q1.mono (brefl w).size)
  have lw1 : w.heap.size + 1 ≤ w1.heap.size := by have := hb1.size; simp at this; omega
  clear q1
  go_wp2_with fail
  (with_reducible refine (tprefix_v _ (F) T HT.out).mono ?_); rintro e w2 ⟨rfl, q2⟩
  replace x1a := x1a.b q2
  have bw2 := bw1.trans (q2.mono bw1.size)
  have lw2 := q2.size
  clear q2 bw1
  go_wp2_with fail
  (with_reducible refine (i_parse_ok _ (T) (by omega) HO.out).mono ?_); rintro e w3 ⟨b3, A3, n3, c3, rfl, h3, q3⟩
  replace x1a := x1a.b q3
  have bw3 := bw2.trans (q3.mono bw2.size)
  have lw3 := q3.size
  clear q3 bw2
  go_wp2_with fail
  (with_reducible refine (i_sign_e _ b3 A3 n3 c3 (valZ T) (T.length) ?_ (s) ?_ ?_).mono ?_); (exact (h3.belw ((Below.refl _ _).alloc (Nat.le_refl _) _)).iz); (exact HS.out); (omega); rintro e w4 ⟨rfl, hb4⟩
  have q4 := ((Below.refl _ _).alloc (Nat.le_refl _) _).trans (hb4.mono (by simp))
  replace h3 := h3.belw q4
  replace x1a := x1a.b q4
  have x4a : Blk w4 w3.heap.size 46 #[.bool b3, .slice A3 n3 c3] := (blkAt _ _ _ (by simp)).below hb4 (by simp)
  have bw4 := bw3.trans (q4.mono bw3.size)
  have lw4 : w3.heap.size + 1 ≤ w4.heap.size := by have := hb4.size; simp at this; omega
  clear q4 bw3
  go_wp2_with fail
  (with_reducible refine (trim_v _ (B) ([]) (by omega) HX.out).mono ?_); rintro e w5 ⟨rfl, q5⟩
  replace h3 := h3.belw q5
  replace x1a := x1a.b q5
  replace x4a := x4a.b q5
  have bw5 := bw4.trans (q5.mono bw4.size)
  have lw5 := q5.size
  clear q5 bw4
  go_wp2_with fail
  (with_reducible refine (i_of1 _ (10) ?_ ?_).mono ?_); (first | omega | decide | assumption); (first | omega | decide | assumption); rintro e w6 ⟨b6, A6, n6, c6, rfl, h6, q6⟩
  replace h3 := h3.belw q6
  replace x1a := x1a.b q6
  replace x4a := x4a.b q6
  have bw6 := bw5.trans (q6.mono bw5.size)
  have lw6 := q6.size
  clear q6 bw5
  go_wp2_with fail
  (with_reducible refine (f_one _).mono ?_); rintro e w7 ⟨b7, A7, n7, c7, rfl, h7, q7⟩
  replace h3 := h3.belw q7
  replace h6 := h6.belw q7
  replace x1a := x1a.b q7
  replace x4a := x4a.b q7
  have bw7 := bw6.trans (q7.mono bw6.size)
  have lw7 := q7.size
  clear q7 bw6
  go_wp2_with fail
  have p8 := (((Kp.refl w7).alloc (.cells #[.bool b6, .slice A6 n6 c6] 46)).alloc (.cells #[.bool b7, .slice A7 n7 c7] 46))
  have bw8 := ((bw7.alloc (by first | omega | (simp <;> omega)) (.cells #[.bool b6, .slice A6 n6 c6] 46)).alloc (by first | omega | (simp <;> omega)) (.cells #[.bool b7, .slice A7 n7 c7] 46))
  have x8a : Blk ((w7.alloc (.cells #[.bool b6, .slice A6 n6 c6] 46)).alloc (.cells #[.bool b7, .slice A7 n7 c7] 46)) w7.heap.size 46 #[.bool b6, .slice A6 n6 c6] := ((blkAt _ _ _ (by simp)).alloc (.cells #[.bool b7, .slice A7 n7 c7] 46))
  have x8b : Blk ((w7.alloc (.cells #[.bool b6, .slice A6 n6 c6] 46)).alloc (.cells #[.bool b7, .slice A7 n7 c7] 46)) (w7.heap.size + 1) 46 #[.bool b7, .slice A7 n7 c7] := (blkAt _ _ _ (by simp))
  replace x1a := ((x1a.alloc (.cells #[.bool b6, .slice A6 n6 c6] 46)).alloc (.cells #[.bool b7, .slice A7 n7 c7] 46))
  replace x4a := ((x4a.alloc (.cells #[.bool b6, .slice A6 n6 c6] 46)).alloc (.cells #[.bool b7, .slice A7 n7 c7] 46))
  have lw8 : w7.heap.size + 2 ≤ ((w7.alloc (.cells #[.bool b6, .slice A6 n6 c6] 46)).alloc (.cells #[.bool b7, .slice A7 n7 c7] 46)).heap.size := by simp
  generalize hE8 : ((w7.alloc (.cells #[.bool b6, .slice A6 n6 c6] 46)).alloc (.cells #[.bool b7, .slice A7 n7 c7] 46)) = w8 at p8 bw8 lw8 x8a x8b x1a x4a ⊢
  clear hE8
  replace h3 := h3.keep p8
  replace h6 := h6.keep p8
  replace h7 := h7.keep p8
  clear bw7
  go_loopw [43] (fun iv wr => ∃ (i : Nat) (bn : Bool) (An : Option Addr) (nn cn : Nat) (bs : Bool) (As : Option Addr) (ns cs : Nat), iv = .int .i64 (i : Nat) ∧ i ≤ B.length ∧ IV wr bn An nn cn (NI (X : Int) B i) 64 ∧ IV wr bs As ns cs ((10 ^ i : Nat) : Int) 64 ∧ Kp w8 wr ∧ Below w.heap.size w wr ∧ w8.heap.size ≤ wr.heap.size ∧ Blk wr w.heap.size 24 #[.bool false, .slice none 0 0, .slice none 0 0] ∧ Blk wr w3.heap.size 46 #[.bool bn, .slice An nn cn] ∧ Blk wr w7.heap.size 46 #[.bool b6, .slice A6 n6 c6] ∧ Blk wr (w7.heap.size + 1) 46 #[.bool bs, .slice As ns cs]) (fun iv _ => B.length - (intOf iv).toNat)
  case atStart => exact ⟨0, b3, A3, n3, c3, b7, A7, n7, c7, rfl, Nat.zero_le _, (by rw [NI_zero, ← HX2.out]; exact h3.mono (by omega)), (by rw [show ((10 ^ 0 : Nat) : Int) = 1 from rfl]; exact h7.mono (by omega)), Kp.refl _, bw8, Nat.le_refl _, x1a, x4a, x8a, x8b⟩
  case round =>
    clear x1a
    clear x4a
    clear x8a
    clear x8b
    obtain ⟨i, bn, An, nn, cn, bs, As, ns, cs, rfl, hi, ho, hp, hkp, hbw, hlw, x1a, x4a, x8a, x8b⟩ := hrel
    replace h3 := h3.keep hkp
    replace h6 := h6.keep hkp
    replace h7 := h7.keep hkp
    by_cases hlt : i < B.length
    · obtain ⟨d, hd⟩ : ∃ d, B[i] = d := ⟨_, rfl⟩
      have hdg : isDg d = true := List.all_eq_true.1 HA.out d (by rw [← hd]; exact List.getElem_mem _)
      have hget : ∀ h, (⟨B.toArray⟩ : ByteArray)[i]'h = d := fun h => hd
      have h8 : 48 ≤ d.toNat ∧ d.toNat ≤ 57 := by unfold isDg at hdg; rw [Bool.and_eq_true, decide_eq_true_eq, decide_eq_true_eq] at hdg; exact hdg
      obtain ⟨dn, hdn⟩ : ∃ dn, d.toNat = dn := ⟨_, rfl⟩
      obtain ⟨v, hv⟩ : ∃ v, dn - 48 = v := ⟨_, rfl⟩
      rw [hdn] at h8
      have e1 : (dn : Int) - 48 = (v : Int) := by omega
      have hv9 : v ≤ 9 := by omega
      have h81 := h8.1
      have h82 := h8.2
      have HD : dval d = v := by unfold dval; rw [hdn]; exact hv
      have HNI := Lib.hid (show NI (X : Int) B i * 10 + (v : Nat) = NI (X : Int) B (i + 1) by rw [← NI_succ _ _ _ hlt, hd, HD])
      have HB1 := Lib.hid (NI_lt HX3.out.1 HA.out (show i + 1 ≤ B.length by omega) HX3.out.2)
      have HB2 := Lib.hid (ten_lt (i := i + 1) (by omega))
      have hw8 : IntKind.u8.wrap (v : Int) = (v : Int) := IntWalk.u8_in _ ⟨by omega, by omega⟩
      have hw64 : IntKind.i64.wrap (v : Int) = (v : Int) := IntWalk.i64_in _ ⟨by omega, by omega⟩
      have hi0 : (0 : Int) ≤ (i : Int) := by omega
      have hiL : (i : Int) < (B.length : Int) := by omega
      clear hd hdg h8 hv HD
      obtain ⟨cx4aa, cx4ab⟩ := x4a.c2
      obtain ⟨lx4aa, lx4ab, lx4ac, lx4ad⟩ := lts0 x4a.lt
      obtain ⟨cx8aa, cx8ab⟩ := x8a.c2
      obtain ⟨lx8aa, lx8ab, lx8ac, lx8ad⟩ := lts0 x8a.lt
      go_wp2_with fail
      refine wp_region_lin (B := w.heap.size) (fr := fun xf => ⟨List.toArray (strV T :: strV B :: undef :: undef :: .pointer (some ⟨w.heap.size, 0, none⟩) :: .nilIface :: .bool false :: .pointer (some ⟨w3.heap.size, 0, none⟩) :: .nilIface :: .pointer (some ⟨w7.heap.size, 0, none⟩) :: .pointer (some ⟨w7.heap.size + 1, 0, none⟩) :: .int .i64 (i : Nat) :: strV F :: .bool false :: strV F :: strV T :: .tuple #[.agg #[.bool b3, .slice A3 n3 c3], .nilIface] :: strV T :: .tuple #[.agg #[.bool b3, .slice A3 n3 c3], .nilIface] :: .agg #[.bool b3, .slice A3 n3 c3] :: .nilIface :: .nilIface :: .bool false :: .bool false :: .agg #[.bool b3, .slice A3 n3 c3] :: .int .i64 s :: .bool false :: .bool false :: .bool false :: strV B :: .bool false :: .bool false :: .bool false :: strV B :: strV [] :: .bool false :: .bool false :: undef :: undef :: .agg #[.bool b6, .slice A6 n6 c6] :: .agg #[.bool b7, .slice A7 n7 c7] :: strV B :: .int .i64 (B.length : Nat) :: .int .i64 (i : Nat) :: .bool true :: .int .i64 (i : Nat) :: xf 0 :: xf 1 :: xf 2 :: xf 3 :: xf 4 :: xf 5 :: xf 6 :: xf 7 :: xf 8 :: xf 9 :: u56 :: u57 :: u58 :: u59 :: undef :: undef :: undef :: undef :: undef :: undef :: []), []⟩) (R := fun ri => List.getD ((PEq (.agg #[.bool bn, .slice An nn cn])) :: (PEq (.agg #[.bool b6, .slice A6 n6 c6])) :: (VI ((NI (X : Int) B i) * ((10 : Int))) ((64) + (1))) :: (PEq (strV B)) :: (PEq (.int .i64 (i : Nat))) :: (PEq (.int .u8 (dn : Nat))) :: (PEq (.int .u8 (v : Nat))) :: (PEq (.int .i64 (v : Nat))) :: (VI (((v : Nat) : Int)) (1)) :: (VI (((NI (X : Int) B i) * ((10 : Int))) + (((v : Nat) : Int))) (((64) + (1)) + (1) + 1)) :: PAny :: []) ri (fun _ _ => True)) (es := []) (ow := [⟨w.heap.size, 11, 0, 24, #[.bool false, .slice none 0 0, .slice none 0 0], CAny⟩, ⟨w3.heap.size, 10, 0, 46, #[.bool bn, .slice An nn cn], CI (((NI (X : Int) B i) * ((10 : Int))) + (((v : Nat) : Int))) (((64) + (1)) + (1) + 1)⟩, ⟨w7.heap.size, 11, 0, 46, #[.bool b6, .slice A6 n6 c6], CAny⟩, ⟨w7.heap.size + 1, 11, 0, 46, #[.bool bs, .slice As ns cs], CAny⟩]) (x0 := (upd (upd (upd (upd (upd (upd (upd (upd (upd (upd (fun _ => undef) 0 (u46)) 1 (u47)) 2 (u48)) 3 (u49)) 4 (u50)) 5 (u51)) 6 (u52)) 7 (u53)) 8 (u54)) 9 (u55))) (by kernel_rfl)
        (each_of ⟨fun _ _ => rfl, fun _ _ => rfl, fun _ _ => rfl, fun _ _ => rfl, fun _ _ => rfl, fun _ _ => rfl, fun _ _ => rfl, fun _ _ => rfl, fun _ _ => rfl, fun _ _ => rfl, fun _ _ => rfl, trivial⟩) (each_of (acyc_from _ 0 (by kernel_rfl))) (AllStab.get _ ⟨stEq _, stEq _, stI _ _, stEq _, stEq _, stEq _, stEq _, stEq _, stI _ _, stI _ _, stAny, trivial⟩)
        (fun _ h => nomatch h) (List.forall_mem_cons.2 ⟨scAny, List.forall_mem_cons.2 ⟨scI _ _, List.forall_mem_cons.2 ⟨scAny, List.forall_mem_cons.2 ⟨scAny, fun _ h => nomatch h⟩⟩⟩⟩) (fun _ h => nomatch h) hbw.size
        (List.forall_mem_cons.2 ⟨⟨x1a, by show w.heap.size ≤ w.heap.size; omega⟩, List.forall_mem_cons.2 ⟨⟨x4a, by show w.heap.size ≤ w3.heap.size; omega⟩, List.forall_mem_cons.2 ⟨⟨x8a, by show w.heap.size ≤ w7.heap.size; omega⟩, List.forall_mem_cons.2 ⟨⟨x8b, by show w.heap.size ≤ w7.heap.size + 1; omega⟩, fun _ h => nomatch h⟩⟩⟩⟩) (ownDist (by simp <;> omega))
        (each_of ⟨?_, ?_, ?_, ?_, ?_, ?_, ?_, ?_, ?_, ?_, ?_, trivial⟩) ?_
      · exact .inl ⟨by simp, by simp, fun xf wq hk hbl hd K hK => by
          have y : Blk wq w3.heap.size 46 #[.bool bn, .slice An nn cn] := hbl _ (List.Mem.tail _ (List.Mem.head _)) (by simp [Region.binds])
          obtain ⟨hcl0, hcl1⟩ := y.c2
          (try dsimp only)
          go_simp
          exact hK.out (.agg #[.bool bn, .slice An nn cn]) _ rfl (brefl _)⟩
      · exact .inl ⟨by simp, by simp, fun xf wq hk hbl hd K hK => by
          have y : Blk wq w7.heap.size 46 #[.bool b6, .slice A6 n6 c6] := hbl _ (List.Mem.tail _ (List.Mem.tail _ (List.Mem.head _))) (by simp [Region.binds])
          obtain ⟨hcl0, hcl1⟩ := y.c2
          (try dsimp only)
          go_simp
          exact hK.out (.agg #[.bool b6, .slice A6 n6 c6]) _ rfl (brefl _)⟩
      · exact .inl ⟨by simp, by simp, fun xf wq hk hbl hd K hK => by
          have dq0 : xf 0 = .agg #[.bool bn, .slice An nn cn] := hd ⟨0, .data⟩ (by simp) rfl
          have dq1 : xf 1 = .agg #[.bool b6, .slice A6 n6 c6] := hd ⟨1, .data⟩ (by simp) rfl
          (try dsimp only); (try simp only [dq0, dq1])
          go_simp
          go_at_call 106
          (with_reducible refine (i_mul _ bn An nn cn (NI (X : Int) B i) (64) ?_ b6 A6 n6 c6 ((10 : Int)) (1) ?_ ?_).mono ?_); (exact (ho.keep hk).iz); (exact (h6.keep hk).iz); (first | omega | decide | assumption); rintro e wr ⟨b10, A10, n10, c10, rfl, h10, hbr⟩
          have hz := hK.out _ _ ⟨b10, A10, n10, c10, rfl, h10⟩ hbr
          simp only [dq0, dq1] at hz
          exact hz⟩
      · exact .inl ⟨by simp, by simp, fun xf wq hk hbl hd K hK => by
          (try dsimp only)
          go_simp
          exact hK.out (strV B) _ rfl (brefl _)⟩
      · exact .inl ⟨by simp, by simp, fun xf wq hk hbl hd K hK => by
          (try dsimp only)
          go_simp
          exact hK.out (.int .i64 (i : Nat)) _ rfl (brefl _)⟩
      · exact .inl ⟨by simp, by simp, fun xf wq hk hbl hd K hK => by
          have dq3 : xf 3 = strV B := hd ⟨3, .data⟩ (by simp) rfl
          have dq4 : xf 4 = .int .i64 (i : Nat) := hd ⟨4, .data⟩ (by simp) rfl
          (try dsimp only); (try simp only [dq3, dq4])
          go_simp
          have hz := hK.out (.int .u8 (dn : Nat)) _ rfl (brefl _)
          simp only [dq3, dq4] at hz
          exact hz⟩
      · exact .inl ⟨by simp, by simp, fun xf wq hk hbl hd K hK => by
          have dq5 : xf 5 = .int .u8 (dn : Nat) := hd ⟨5, .data⟩ (by simp) rfl
          (try dsimp only); (try simp only [dq5])
          go_simp
          have hz := hK.out (.int .u8 (v : Nat)) _ rfl (brefl _)
          simp only [dq5] at hz
          exact hz⟩
      · exact .inl ⟨by simp, by simp, fun xf wq hk hbl hd K hK => by
          have dq6 : xf 6 = .int .u8 (v : Nat) := hd ⟨6, .data⟩ (by simp) rfl
          (try dsimp only); (try simp only [dq6])
          go_simp
          have hz := hK.out (.int .i64 (v : Nat)) _ rfl (brefl _)
          simp only [dq6] at hz
          exact hz⟩
      · exact .inl ⟨by simp, by simp, fun xf wq hk hbl hd K hK => by
          have dq7 : xf 7 = .int .i64 (v : Nat) := hd ⟨7, .data⟩ (by simp) rfl
          (try dsimp only); (try simp only [dq7])
          go_simp
          go_at_call 60
          (with_reducible refine (i_of1 _ ((v : Nat)) ?_ ?_).mono ?_); (first | omega | decide | assumption); (first | omega | decide | assumption); rintro e wr ⟨b11, A11, n11, c11, rfl, h11, hbr⟩
          have hz := hK.out _ _ ⟨b11, A11, n11, c11, rfl, h11⟩ hbr
          simp only [dq7] at hz
          exact hz⟩
      · exact .inl ⟨by simp, by simp, fun xf wq hk hbl hd K hK => by
          obtain ⟨b10, A10, n10, c10, dq2, h10⟩ : VI ((NI (X : Int) B i) * ((10 : Int))) ((64) + (1)) (xf 2) wq := hd ⟨2, .data⟩ (by simp) rfl
          obtain ⟨b11, A11, n11, c11, dq8, h11⟩ : VI (((v : Nat) : Int)) (1) (xf 8) wq := hd ⟨8, .data⟩ (by simp) rfl
          (try dsimp only); (try simp only [dq2, dq8])
          go_simp
          go_at_call 107
          (with_reducible refine (i_add _ b10 A10 n10 c10 ((NI (X : Int) B i) * ((10 : Int))) ((64) + (1)) ?_ b11 A11 n11 c11 (((v : Nat) : Int)) (1) ?_ ?_).mono ?_); (exact h10.iz); (exact h11.iz); (first | omega | decide | assumption); rintro e wr ⟨b12, A12, n12, c12, rfl, h12, hbr⟩
          have hz := hK.out _ _ ⟨b12, A12, n12, c12, rfl, h12⟩ hbr
          simp only [dq2, dq8] at hz
          exact hz⟩
      · exact .inr (.inr (.inr ⟨⟨w3.heap.size, 10, 0, 46, #[.bool bn, .slice An nn cn], CI (((NI (X : Int) B i) * ((10 : Int))) + (((v : Nat) : Int))) (((64) + (1)) + (1) + 1)⟩, by simp, rfl, by simp, by simp, (show KT 46 = false by decide), fun _ _ => True.intro, fun xf wq hblk hd => by
          obtain ⟨b12, A12, n12, c12, dq9, h12⟩ : VI (((NI (X : Int) B i) * ((10 : Int))) + (((v : Nat) : Int))) (((64) + (1)) + (1) + 1) (xf 9) wq := hd ⟨9, .data⟩ (by simp) rfl
          dsimp only at hblk
          refine ⟨[.bool b12, .slice A12 n12 c12], fun w' hk => ⟨b12, A12, n12, c12, rfl, h12.keep hk⟩, fun K hK => ?_⟩
          have hc0 : wq.cell? ⟨w3.heap.size, 0, none⟩ = some (.bool bn) := hblk.cell 0
          have hc1 : wq.cell? ⟨w3.heap.size, 1, none⟩ = some (.slice An nn cn) := hblk.cell 1
          have hf0 : wq.frozen? ⟨w3.heap.size, 0, none⟩ = false := hblk.frozen 0
          have hf1 : wq.frozen? ⟨w3.heap.size, 1, none⟩ = false := hblk.frozen 1
          (try dsimp only)
          simp only [dq9]
          go_simp
          have hz := hK.out undef
          simp only [dq9] at hz
          exact hz⟩))
      clear cx4aa cx4ab lx4aa lx4ab lx4ac lx4ad cx8aa cx8ab lx8aa lx8ab lx8ac lx8ad
      intro y9 w9 kq9 hbl9 lw9 how hrr hfl hds
      replace h6 := h6.keep kq9
      replace ho := ho.keep kq9
      replace hp := hp.keep kq9
      replace hkp := hkp.trans kq9
      obtain ⟨_, z9_0, ez, _⟩ := how _ (List.Mem.head _)
      obtain rfl := ez (by simp)
      dsimp only at z9_0
      obtain ⟨_, z9_1, _, ez⟩ := how _ (List.Mem.tail _ (List.Mem.head _))
      obtain ⟨b12, A12, n12, c12, rfl, h12⟩ := ez (by simp)
      dsimp only at z9_1
      obtain ⟨_, z9_2, ez, _⟩ := how _ (List.Mem.tail _ (List.Mem.tail _ (List.Mem.head _)))
      obtain rfl := ez (by simp)
      dsimp only at z9_2
      obtain ⟨_, z9_3, ez, _⟩ := how _ (List.Mem.tail _ (List.Mem.tail _ (List.Mem.tail _ (List.Mem.head _))))
      obtain rfl := ez (by simp)
      dsimp only at z9_3
      (try dsimp only)
      clear hrr hfl how hds 
      clear x1a x4a x8a x8b
      have bw9 := hbw.trans hbl9
      obtain ⟨cz9_1_0, cz9_1_1⟩ := z9_1.c2
      obtain ⟨lz9_1_0, lz9_1_1, lz9_1_2, lz9_1_3⟩ := lts0 z9_1.lt
      obtain ⟨cz9_2_0, cz9_2_1⟩ := z9_2.c2
      obtain ⟨lz9_2_0, lz9_2_1, lz9_2_2, lz9_2_3⟩ := lts0 z9_2.lt
      obtain ⟨cz9_3_0, cz9_3_1⟩ := z9_3.c2
      obtain ⟨lz9_3_0, lz9_3_1, lz9_3_2, lz9_3_3⟩ := lts1 z9_3.lt
      go_wp2_with fail
      (with_reducible refine (i_mul _ bs As ns cs (((10 ^ i : Nat) : Int)) (64) ?_ b6 A6 n6 c6 ((10 : Int)) (1) ?_ ?_).mono ?_); (exact hp.iz); (exact h6.iz); (first | omega | decide | assumption); rintro e w14 ⟨b14, A14, n14, c14, rfl, h14, q14⟩
      clear cz9_1_0 cz9_1_1 lz9_1_0 lz9_1_1 lz9_1_2 lz9_1_3 cz9_2_0 cz9_2_1 lz9_2_0 lz9_2_1 lz9_2_2 lz9_2_3 cz9_3_0 cz9_3_1 lz9_3_0 lz9_3_1 lz9_3_2 lz9_3_3
      replace h6 := h6.belw q14
      replace ho := ho.belw q14
      replace hp := hp.belw q14
      replace h12 := h12.belw q14
      replace hkp := hkp.below q14
      replace z9_0 := z9_0.b q14
      replace z9_1 := z9_1.b q14
      replace z9_2 := z9_2.b q14
      replace z9_3 := z9_3.b q14
      have bw14 := bw9.trans (q14.mono bw9.size)
      have lw14 := q14.size
      clear q14 bw9
      obtain ⟨cz9_3_0, cz9_3_1⟩ := z9_3.c2
      obtain ⟨fz9_3_0, fz9_3_1⟩ := z9_3.f2
      obtain ⟨lz9_3_0, lz9_3_1, lz9_3_2, lz9_3_3⟩ := lts1 z9_3.lt
      go_wp2_with fail
      clear cz9_3_0 fz9_3_0 cz9_3_1 fz9_3_1 lz9_3_0 lz9_3_1 lz9_3_2 lz9_3_3
      have p15 := (((Kp.refl w14).sb (w7.heap.size + 1) 0 z9_3.box (by decide) (.bool b14)).sb (w7.heap.size + 1) 1 (z9_3.box.set ⟨w7.heap.size + 1, 0, none⟩ (.bool b14)) (by decide) (.slice A14 n14 c14))
      have bw15 := ((bw14.sc (w7.heap.size + 1) 0 (by omega) (.bool b14)).sc (w7.heap.size + 1) 1 (by omega) (.slice A14 n14 c14))
      replace z9_0 : Blk ((w14.setCell ⟨w7.heap.size + 1, 0, none⟩ (.bool b14)).setCell ⟨w7.heap.size + 1, 1, none⟩ (.slice A14 n14 c14)) w.heap.size 24 #[.bool false, .slice none 0 0, .slice none 0 0] := ((z9_0.fr (w7.heap.size + 1) 0 (by omega) (.bool b14)).fr (w7.heap.size + 1) 1 (by omega) (.slice A14 n14 c14))
      replace z9_1 : Blk ((w14.setCell ⟨w7.heap.size + 1, 0, none⟩ (.bool b14)).setCell ⟨w7.heap.size + 1, 1, none⟩ (.slice A14 n14 c14)) w3.heap.size 46 #[.bool b12, .slice A12 n12 c12] := ((z9_1.fr (w7.heap.size + 1) 0 (by omega) (.bool b14)).fr (w7.heap.size + 1) 1 (by omega) (.slice A14 n14 c14))
      replace z9_2 : Blk ((w14.setCell ⟨w7.heap.size + 1, 0, none⟩ (.bool b14)).setCell ⟨w7.heap.size + 1, 1, none⟩ (.slice A14 n14 c14)) w7.heap.size 46 #[.bool b6, .slice A6 n6 c6] := ((z9_2.fr (w7.heap.size + 1) 0 (by omega) (.bool b14)).fr (w7.heap.size + 1) 1 (by omega) (.slice A14 n14 c14))
      replace z9_3 : Blk ((w14.setCell ⟨w7.heap.size + 1, 0, none⟩ (.bool b14)).setCell ⟨w7.heap.size + 1, 1, none⟩ (.slice A14 n14 c14)) (w7.heap.size + 1) 46 #[.bool b14, .slice A14 n14 c14] := ((z9_3.set_at 0 (.bool b14) #[.bool b14, .slice As ns cs] (by simp)).set_at 1 (.slice A14 n14 c14) #[.bool b14, .slice A14 n14 c14] (by simp))
      have lw15 : w14.heap.size + 0 ≤ ((w14.setCell ⟨w7.heap.size + 1, 0, none⟩ (.bool b14)).setCell ⟨w7.heap.size + 1, 1, none⟩ (.slice A14 n14 c14)).heap.size := by simp
      generalize hE15 : ((w14.setCell ⟨w7.heap.size + 1, 0, none⟩ (.bool b14)).setCell ⟨w7.heap.size + 1, 1, none⟩ (.slice A14 n14 c14)) = w15 at p15 bw15 lw15 z9_0 z9_1 z9_2 z9_3 ⊢
      clear hE15
      replace h6 := h6.keep p15
      replace ho := ho.keep p15
      replace hp := hp.keep p15
      replace h12 := h12.keep p15
      replace h14 := h14.keep p15
      replace hkp := hkp.trans p15
      clear bw14
      have hN2 := h12.resz (K := 64) (by rw [HNI.out]; exact HB1.out)
      rw [HNI.out] at hN2
      have hS2 := h14.resz (K := 64) (by rw [ten_succ]; exact HB2.out)
      rw [ten_succ] at hS2
      go_roundw
      case rel => exact ⟨i + 1, b12, A12, n12, c12, b14, A14, n14, c14, by go_num, by omega, hN2, hS2, hkp, bw15, by omega, z9_0, z9_1, z9_2, z9_3⟩
      case measure => simp [intOf]; omega
    · have hiN : i = B.length := by omega
      subst hiN
      obtain ⟨cx4aa, cx4ab⟩ := x4a.c2
      obtain ⟨lx4aa, lx4ab, lx4ac, lx4ad⟩ := lts0 x4a.lt
      obtain ⟨cx8ba, cx8bb⟩ := x8b.c2
      obtain ⟨lx8ba, lx8bb, lx8bc, lx8bd⟩ := lts1 x8b.lt
      go_wp2_with fail
      (with_reducible refine (f_form _ bn An nn cn (NI (X : Int) B B.length) (64) ?_ bs As ns cs (((10 ^ B.length : Nat) : Int)) (64) ?_ (decQ F B) 64 ?_ ?_ ?_ ?_).mono ?_); (exact ho.iz); (exact hp.iz); (exact ten_ne _); (exact HQ.out); (exact HSQ.out); (omega); rintro e w9 ⟨b9, A9, n9, c9, A'9, n'9, c'9, rfl, h9, q9⟩
      clear cx4aa cx4ab lx4aa lx4ab lx4ac lx4ad cx8ba cx8bb lx8ba lx8bb lx8bc lx8bd
      replace h6 := h6.belw q9
      replace ho := ho.belw q9
      replace hp := hp.belw q9
      replace hkp := hkp.below q9
      replace x1a := x1a.b q9
      replace x4a := x4a.b q9
      replace x8a := x8a.b q9
      replace x8b := x8b.b q9
      have bw9 := hbw.trans (q9.mono hbw.size)
      have lw9 := q9.size
      clear q9
      obtain ⟨cx1aa, cx1ab, cx1ac⟩ := x1a.c3
      obtain ⟨fx1aa, fx1ab, fx1ac⟩ := x1a.f3
      obtain ⟨lx1aa, lx1ab, lx1ac, lx1ad⟩ := lts0 x1a.lt
      go_wp2_with fail
      refine bodyPost_ret (v := .tuple #[.agg #[.bool b9, .slice A9 n9 c9, .slice A'9 n'9 c'9], .nilIface]) (by simp [results, Tryz.results101, go_sem, *] <;> first | rfl | exact ⟨rfl, rfl⟩) rfl ?_
      exact ⟨_, _, _, _, _, _, _, rfl, (h9).keep ((((Kp.refl w9).sb w.heap.size 0 x1a.box (by decide) (.bool b9)).sb w.heap.size 1 (x1a.box.set ⟨w.heap.size, 0, none⟩ (.bool b9)) (by decide) (.slice A9 n9 c9)).sb w.heap.size 2 ((x1a.box.set ⟨w.heap.size, 0, none⟩ (.bool b9)).set ⟨w.heap.size, 1, none⟩ (.slice A9 n9 c9)) (by decide) (.slice A'9 n'9 c'9)), (((bw9.sc w.heap.size 0 (by omega) (.bool b9)).sc w.heap.size 1 (by omega) (.slice A9 n9 c9)).sc w.heap.size 2 (by omega) (.slice A'9 n'9 c'9))⟩
end Go.Proofs.YtkpjhmpjihchpaaGreatDoor
