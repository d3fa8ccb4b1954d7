/- PrintBodies (second form): Body returns the text of any body, Number that of any fraction, as the reference does; for every input of bulk at most 1048576 the law returns true. The listed library variables are tied to the program text. -/
import Derived.Below
import Derived.Laws.OwnMore
import Derived.Deep.Draws
import Derived.OneCell
import Derived.Laws.Rows
import Derived.Test.YtckjakojllcdoaaGreatDoorProg
import Derived.WalkKit
import Derived.WalkSpells
import Derived.WalkLawsBesides
import Derived.BigQuiet
import Derived.Deep.QuietTactic
import Derived.Deep.AppendLies
import Derived.Lib.Hide
import Derived.Deep.RegionHeld3
import Derived.Deep.DrawnRows
import Derived.Shelf.Strings.Builder1
import Derived.Shelf.Strings.Builder2
import Derived.Shelf.Strings.OnBuilder
import Derived.Shelf.Small.Bits
import Derived.Shelf.Strings.BuilderF
import Derived.Shelf.Strings.BuilderK
import Derived.Shelf.Strings.Builder2Cap
import Derived.Shelf.Strconv.Itoa0
import Derived.Shelf.Strconv.Itoa1
import Derived.Shelf.LaysM
import Derived.Shelf.Strconv.Itoa2
import Derived.Shelf.Strconv.Itoa3
import Derived.Shelf.Strings.Search1
import Derived.Shelf.Strings.Search2
import Derived.Shelf.Strings.Search3
import Derived.Shelf.Strings.Count
import Derived.Shelf.Strings.Shaped
import Derived.Shelf.Strings.Prefix
import Derived.Shelf.Bits.Mul64
import Derived.Shelf.Strings.Repeat
import Derived.Shelf.Strings.BuilderCap
import Derived.IntWalk
import Derived.Deep.DeepCutAuto
import Derived.Deep.RegionHeld
import Derived.Lib.ItoaNum
import Derived.Lib.ItoaMem
import Derived.Lib.Repeat
import Derived.Lib.Join
import Derived.Lib.Atoi
import Derived.Lib.SlTrimSet
import Derived.Lib.AppendIntMem
import Derived.Shelf.Strings.SlTrimAscii
import Derived.Lib.IndexMore
import Derived.Test.YtckjakojllcdoaaGreatDoorCards
import Derived.Test.YtckjakojllcdoaaGreatDoorTie
import Derived.ProofKit
import Derived.OpenShut
import Derived.Deep.DeepHandedRow
import Derived.Lib.LaidTab
import Derived.Shelf.Vars
import Derived.Deep.Slices
import Derived.SizedLaws
import Derived.ChangeMaps5
import Derived.Test.YtckjakojllcdoaaGreatDoorA5
set_option linter.unusedVariables false
set_option maxHeartbeats 8000000
set_option maxRecDepth 100000
/- Bodies with names of up to 2^20 bytes: their texts (both); read as data under the second form's bound. -/
namespace Go.Proofs.YtckjakojllcdoaaGreatDoor
open Go Go.RowKit Bn Go.ChangeShapes Go.WideShapes
section
attribute [local go_sem ↓] Go.wp_at_zero Go.wp_at_succ
def MkShortL (m : MarkL) : Prop := m.name.length ≤ 2000000 ∧ Sz m.x.q 40 ∧ Sz m.y.q 40
theorem markText_lenL {m : MarkL} (h : MkShortL m) : (markText m).length ≤ 2002010 := by
  have h1 := ratText_le h.2.1 (Nat.le_refl _)
  have h2 := ratText_le h.2.2 (Nat.le_refl _)
  have h3 := h.1
  unfold markText
  simp only [List.length_cons, List.length_append, List.length_nil]
  omega
theorem marks_lenL : ∀ {l : List MarkL}, (∀ m ∈ l, MkShortL m) → (l.flatMap markText).length ≤ 2002010 * l.length
  | [], _ => by simp
  | m :: l, h => by
    have h1 := markText_lenL (h m (by simp))
    have h2 := marks_lenL (l := l) (fun x hx => h x (by simp [hx]))
    simp only [List.flatMap_cons, List.length_append, List.length_cons]
    omega
theorem MkAt.shortL {w : World} {g o : Nat} {m : MarkL} (h : MkAt 40 w g o m) (hm : m.name.length ≤ 2000000) : MkShortL m := by
  obtain ⟨_, ⟨b, A, n, c, D, m1, e, _, _, _, h1⟩, ⟨b', A', n', c', D', m1', e', _, _, _, h2⟩, _⟩ := h
  exact ⟨hm, h1.sz (by decide), h2.sz (by decide)⟩
theorem SlS.shortL {w : World} {A : Option Addr} {n c : Nat} {l : List MarkL} (h : SlS (MkAt 40) 7 w A n c l) (hms : ∀ m ∈ l, m.name.length ≤ 2000000) : ∀ m ∈ l, MkShortL m := by
  intro m hm
  obtain ⟨i, hi, e⟩ := List.getElem_of_mem hm
  obtain ⟨g, o, a, _, _, _, ha, hp⟩ := h.at_ (i := i) (by rw [← h.1]; exact hi)
  rw [List.getElem?_eq_getElem hi] at ha
  injection ha with ha
  rw [← ha, e] at hp
  exact hp.shortL (hms m hm)
theorem p_bodyL (w : World) (A : Option Addr) (n c : Nat) (b : BodyL) (h : SlS (MkAt 40) 7 w A n c b.pts) (htab : Tab w) (hn : n ≤ 1000) (hnm : b.name.length ≤ 2000000) (hms : ∀ m ∈ b.pts, m.name.length ≤ 2000000) (T : List UInt8) (hT : bodyText b = T) :
  Calls Tryz.prog 12 #[.agg #[strV b.name, .slice A n c]] w (RetV w (strV T)) := by
 have HM := Lib.hid (h.shortL hms)
 have HF := Lib.hid (marks_lenL (h.shortL hms))
 have hlen := h.1
 have hnc := h.2.1
 have hsn := size_v b.name
 obtain ⟨h1, eh1⟩ : ∃ t, [98, 111, 100, 121, 32] ++ b.name = t := ⟨_, rfl⟩
 have ah1 := app_v ([98, 111, 100, 121, 32]) (b.name)
 rw [eh1] at ah1
 have lh1 : h1.length = 5 + b.name.length := by rw [← eh1, List.length_append]; try simp
 have kh1 : (9223372036854775807 < 5 + b.name.length) = False := eq_false (by omega)
 have zh1 := size_v h1
 obtain ⟨h2, eh2⟩ : ∃ t, h1 ++ [32, 123] = t := ⟨_, rfl⟩
 have ah2 := app_v (h1) ([32, 123])
 rw [eh2] at ah2
 have lh2 : h2.length = h1.length + 2 := by rw [← eh2, List.length_append]; try simp
 have kh2 : (9223372036854775807 < h1.length + 2) = False := eq_false (by omega)
 have zh2 := size_v h2
 have HE : Hid (b.pts.flatMap markText ++ [32, 125] ++ [] = b.pts.flatMap markText ++ [32, 125] ∧ T = h2 ++ b.pts.flatMap markText ++ [32, 125]) := Lib.hid ⟨by simp, by rw [← hT, ← eh2, ← eh1]; rfl⟩
 have HLN := Lib.hid hlen
 have HTab := Lib.hid htab
 have H := Lib.hid h
 have hl2 : h2.length ≤ 2000007 := by omega
 clear h hms hT htab hlen eh1 eh2 lh1 lh2
 go_enter Tryz.func12, Tryz.ntmps12
 go_wp2_with fail
 have B0 : Bu (w.heap.size + 1) (w.heap.size + 1) ((w.alloc (.cells #[strV b.name, .slice A n c] 38)).alloc (.cells #[.pointer none, .slice none 0 0] 55)) [] := by
  have := Bu.new (w := w.alloc (.cells #[strV b.name, .slice A n c] 38))
  simpa using this
 have q0 : Below w.heap.size w ((w.alloc (.cells #[strV b.name, .slice A n c] 38)).alloc (.cells #[.pointer none, .slice none 0 0] 55)) := ((brefl w).alloc (Nat.le_refl _) _).alloc (by simp) _
 have xa : Blk ((w.alloc (.cells #[strV b.name, .slice A n c] 38)).alloc (.cells #[.pointer none, .slice none 0 0] 55)) w.heap.size 38 #[strV b.name, .slice A n c] := (blkAt _ _ _ rfl).alloc _
 (with_reducible refine (bu_write _ _ _ _ h2 B0 (by simp; omega)).mono ?_); rintro e' w1 ⟨rfl, B1, q1, _⟩
 have q1 : Below w.heap.size w w1 := q0.trans (q1.mono (by omega))
 have xa := xa.below ‹Below (w.heap.size + 1) _ w1› (by omega)
 rw [List.nil_append] at B1
 clear B0 q0
 obtain ⟨cA0, cA1⟩ := xa.c2
 have HB := Lib.hid B1
 clear B1
 go_wp2_with fail
 clear cA0 cA1
 go_loopw [14] (fun iv wr => ∃ i : Nat, iv = .int .i64 (i : Nat) ∧ i ≤ n ∧ Hid (Bu (w.heap.size + 1) (w.heap.size + 1) wr (h2 ++ (b.pts.take i).flatMap markText)) ∧ Below w.heap.size w wr) (fun iv _ => n - (intOf iv).toNat)
 case atStart => exact ⟨0, rfl, Nat.zero_le _, by simpa using HB, q1⟩
 case round =>
  clear HB q1
  obtain ⟨i, rfl, hi, HB, hb⟩ := hrel
  rename World => wa
  have hfl := flat_len markText b.pts i
  rcases Nat.lt_or_ge i n with hlt | hge
  ·have hi1 : ((i : Int) < (n : Int)) = True := by simp; omega
   obtain ⟨g, o, m, e1, hg, _, hbi, hM⟩ := (H.out.mk_ hb).at_ hlt
   subst e1
   have hsh := HM.out m (List.mem_of_getElem? hbi)
   obtain ⟨hm1, hm2, hm3⟩ := hsh
   have hfs := flat_step markText hbi
   have hfl2 := flat_len markText b.pts (i + 1)
   obtain ⟨d0, ⟨b1, A1, n1, c1, D1, m1, e1, d1, d2, d3, hQ1⟩, ⟨b2, A2, n2, c2, D2, m2, e2, d4, d5, d6, hQ2⟩, hmn⟩ := hM
   have d2 : wa.cell? ⟨g, o + i * 7 + 2, none⟩ = some (.slice A1 n1 c1) := d2
   have d3 : wa.cell? ⟨g, o + i * 7 + 3, none⟩ = some (.slice D1 m1 e1) := d3
   have d5 : wa.cell? ⟨g, o + i * 7 + 5, none⟩ = some (.slice A2 n2 c2) := d5
   have d6 : wa.cell? ⟨g, o + i * 7 + 6, none⟩ = some (.slice D2 m2 e2) := d6
   have hsm := size_v m.name
   obtain ⟨X, hX⟩ : ∃ X, ratText m.x.q = X := ⟨_, rfl⟩
   obtain ⟨Y, hY⟩ : ∃ Y, ratText m.y.q = Y := ⟨_, rfl⟩
   have hsX := size_v X
   have hsY := size_v Y
   have hlX : X.length ≤ 1000 := by rw [← hX]; exact ratText_le hm2 (Nat.le_refl _)
   have hlY : Y.length ≤ 1000 := by rw [← hY]; exact ratText_le hm3 (Nat.le_refl _)
   obtain ⟨s1, es1⟩ : ∃ t, [32] ++ m.name = t := ⟨_, rfl⟩
   have as1 := app_v ([32]) (m.name)
   rw [es1] at as1
   have ls1 : s1.length = 1 + m.name.length := by rw [← es1, List.length_append]; try simp
   have ks1 : (9223372036854775807 < 1 + m.name.length) = False := eq_false (by omega)
   have zs1 := size_v s1
   obtain ⟨s2, es2⟩ : ∃ t, s1 ++ [32] = t := ⟨_, rfl⟩
   have as2 := app_v (s1) ([32])
   rw [es2] at as2
   have ls2 : s2.length = s1.length + 1 := by rw [← es2, List.length_append]; try simp
   have ks2 : (9223372036854775807 < s1.length + 1) = False := eq_false (by omega)
   have zs2 := size_v s2
   obtain ⟨s3, es3⟩ : ∃ t, s2 ++ X = t := ⟨_, rfl⟩
   have as3 := app_v (s2) (X)
   rw [es3] at as3
   have ls3 : s3.length = s2.length + X.length := by rw [← es3, List.length_append]; try simp
   have ks3 : (9223372036854775807 < s2.length + X.length) = False := eq_false (by omega)
   have zs3 := size_v s3
   obtain ⟨s4, es4⟩ : ∃ t, s3 ++ [32] = t := ⟨_, rfl⟩
   have as4 := app_v (s3) ([32])
   rw [es4] at as4
   have ls4 : s4.length = s3.length + 1 := by rw [← es4, List.length_append]; try simp
   have ks4 : (9223372036854775807 < s3.length + 1) = False := eq_false (by omega)
   have zs4 := size_v s4
   obtain ⟨s5, es5⟩ : ∃ t, s4 ++ Y = t := ⟨_, rfl⟩
   have as5 := app_v (s4) (Y)
   rw [es5] at as5
   have ls5 : s5.length = s4.length + Y.length := by rw [← es5, List.length_append]; try simp
   have ks5 : (9223372036854775807 < s4.length + Y.length) = False := eq_false (by omega)
   have zs5 := size_v s5
   obtain ⟨s6, es6⟩ : ∃ t, s5 ++ [59] = t := ⟨_, rfl⟩
   have as6 := app_v (s5) ([59])
   rw [es6] at as6
   have ls6 : s6.length = s5.length + 1 := by rw [← es6, List.length_append]; try simp
   have ks6 : (9223372036854775807 < s5.length + 1) = False := eq_false (by omega)
   have zs6 := size_v s6
   have hmt : markText m = s6 := by
    rw [← es6, ← es5, ← es4, ← es3, ← es2, ← es1, ← hX, ← hY]
    unfold markText
    simp
   rw [hmt] at hfs
   have hls : ((b.pts.take i).flatMap markText).length + s6.length ≤ 2002010 * n := by
    have := congrArg List.length hfs
    rw [List.length_append] at this
    have h9 := HF.out
    have h8 := HLN.out
    rw [h8] at h9
    omega
   have HX := Lib.hid hX
   have HY := Lib.hid hY
   have HFS := Lib.hid hfs
   have HQ1 := Lib.hid hQ1
   have HQ2 := Lib.hid hQ2
   have HLS := Lib.hid hls
   have hga : g < wa.heap.size := hg
   clear hX hY hfs hQ1 hQ2 hls hmt hfl hfl2 hbi hm1 hm2 hm3 es1 es2 es3 es4 es5 es6 ls1 ls2 ls3 ls4 ls5 ls6
   go_wp2_with fail
   have xp : Blk (wa.alloc (.cells #[strV m.name, .bool b1, .slice A1 n1 c1, .slice D1 m1 e1, .bool b2, .slice A2 n2 c2, .slice D2 m2 e2] 50)) wa.heap.size 50 #[strV m.name, .bool b1, .slice A1 n1 c1, .slice D1 m1 e1, .bool b2, .slice A2 n2 c2, .slice D2 m2 e2] := blkAt _ _ _ rfl
   have qb : Below wa.heap.size wa (wa.alloc (.cells #[strV m.name, .bool b1, .slice A1 n1 c1, .slice D1 m1 e1, .bool b2, .slice A2 n2 c2, .slice D2 m2 e2] 50)) := (brefl wa).alloc (Nat.le_refl _) _
   have HBb := Lib.hid (HB.out.belw qb)
   have HTb := Lib.hid ((HTab.out.belw hb).belw qb)
   have HQ1b := Lib.hid (HQ1.out.belw qb)
   have HQ2b := Lib.hid (HQ2.out.belw qb)
   have bwb := hb.trans (qb.mono hb.size)
   have hwb : wa.heap.size < (wa.alloc (.cells #[strV m.name, .bool b1, .slice A1 n1 c1, .slice D1 m1 e1, .bool b2, .slice A2 n2 c2, .slice D2 m2 e2] 50)).heap.size := xp.lt
   have hbl : wa.heap.size ≠ w.heap.size + 1 := by have := HB.out.lt; omega
   clear HB HQ1 HQ2 d0 d1 d2 d3 d4 d5 d6
   generalize (wa.alloc (.cells #[strV m.name, .bool b1, .slice A1 n1 c1, .slice D1 m1 e1, .bool b2, .slice A2 n2 c2, .slice D2 m2 e2] 50)) = wb at xp qb HBb HTb HQ1b HQ2b bwb hwb ⊢
   obtain ⟨cp0, cp1, cp2, cp3, cp4, cp5, cp6⟩ := xp.c7
   go_region_held3 (S7 wa.heap.size (strV m.name) (.bool b1) (.slice A1 n1 c1) (.slice D1 m1 e1) (.bool b2) (.slice A2 n2 c2) (.slice D2 m2 e2)) (first | with_reducible exact Blk.c7 (by assumption) | with_reducible exact Blk.c7 (Blk.drew (by assumption)) | exact Blk.c7 (Blk.drewN (by assumption) _))
    (first
     | (go_at_call 14; (with_reducible refine (p_number _ b1 A1 n1 c1 D1 m1 e1 m.x 40 ?_ (by decide) (by decide) ?_ X HX.out).mono ?_); (exact HQ1b.out.belw (by first | exact qwy | exact (brefl wb).drew | exact below_drewN (brefl wb) _)); (exact HTb.out.belw (by first | exact qwy | exact (brefl wb).drew | exact below_drewN (brefl wb) _)); rintro e' wx ⟨rfl, hwx⟩; have qwx : Below wb.heap.size wb wx := (by first | exact bnext qwy hwx | exact bnext (brefl wb) hwx | exact bnext (below_drewN (brefl wb) _) hwx); have xwx := xp.below qwx xp.lt)
     | (go_at_call 14; (with_reducible refine (p_number _ b2 A2 n2 c2 D2 m2 e2 m.y 40 ?_ (by decide) (by decide) ?_ Y HY.out).mono ?_); (exact HQ2b.out.belw (by first | exact qwx | exact (brefl wb).drew | exact below_drewN (brefl wb) _)); (exact HTb.out.belw (by first | exact qwx | exact (brefl wb).drew | exact below_drewN (brefl wb) _)); rintro e' wy ⟨rfl, hwy⟩; have qwy : Below wb.heap.size wb wy := (by first | exact bnext qwx hwy | exact bnext (brefl wb) hwy | exact bnext (below_drewN (brefl wb) _) hwy); have xwy := xp.below qwy xp.lt)
     | (go_at_call 21; (with_reducible refine (bu_write _ _ _ _ s6 (HBb.out.belw (by first | exact qwx | exact qwy)) (by rw [List.length_append]; have := HLS.out; omega)).mono ?_); rintro e' wz ⟨rfl, Bz, qz, oz⟩; have xz := oz wa.heap.size 50 _ hbl (by decide) (by first | exact xwx | exact xwy)))
   all_goals
    have bz : Below w.heap.size w wz := by
     first
      | exact (bwb.trans (qwy.mono bwb.size)).trans (qz.mono (Nat.le_succ _))
      | exact (bwb.trans (qwx.mono bwb.size)).trans (qz.mono (Nat.le_succ _))
    have HBz : Hid (Bu (w.heap.size + 1) (w.heap.size + 1) wz (h2 ++ (b.pts.take (i + 1)).flatMap markText)) := Lib.hid (by rw [HFS.out, ← List.append_assoc]; exact Bz)
    clear Bz HFS cp0 cp1 cp2 cp3 cp4 cp5 cp6
    go_wp2_with fail
    go_roundw
    case rel => exact ⟨i + 1, by go_num, by omega, HBz, bz⟩
    case measure => simp [intOf]; omega
  ·have hi1 : ((i : Int) < (n : Int)) = False := by simp; omega
   have hin : b.pts.take i = b.pts := List.take_of_length_le (by rw [HLN.out]; exact hge)
   rw [hin] at HB
   have hf := HF.out
   rw [HLN.out] at hf
   have HFL := Lib.hid hf
   clear hf hin hfl
   go_wp2_with fail
   (with_reducible refine (bu_write _ _ _ _ [32, 125] HB.out (by rw [List.length_append]; have := HFL.out; simp only [List.length_cons, List.length_nil]; omega)).mono ?_); rintro e' w2 ⟨rfl, B2, q2, _⟩
   have b2 := hb.trans (q2.mono (Nat.le_succ _))
   have HB2 := Lib.hid B2
   clear B2
   go_wp2_with fail
   (with_reducible refine (bu_str _ _ _ _ HB2.out).mono ?_); rintro e' w3 ⟨rfl, q3⟩
   have b3 := b2.trans (q3.mono (Nat.le_succ _))
   have hTT : h2 ++ b.pts.flatMap markText ++ [32, 125] = T := HE.out.2.symm
   rw [hTT]
   go_wp2_with fail
   go_ret
   exact ⟨rfl, b3⟩
theorem r_bodyL (w : World) (A : Option Addr) (n c : Nat) (b : BodyL) (h : SlS (MkAt 40) 7 w A n c b.pts) (hn : n ≤ 1000) (hnm : b.name.length ≤ 2000000) (hms : ∀ m ∈ b.pts, m.name.length ≤ 2000000) (T : List UInt8) (hT : bodyText b = T) :
    Calls Tryz.prog 13 #[.agg #[strV b.name, .slice A n c]] w (RetV w (strV T)) := by
  have HM := Lib.hid (h.shortL hms)
  have HF := Lib.hid (marks_lenL (h.shortL hms))
  have hlen := h.1
  have hnc := h.2.1
  have hsn := size_v b.name
  obtain ⟨h1, eh1⟩ : ∃ t, [98, 111, 100, 121, 32] ++ b.name = t := ⟨_, rfl⟩
  have ah1 := app_v ([98, 111, 100, 121, 32]) (b.name)
  rw [eh1] at ah1
  have lh1 : h1.length = 5 + b.name.length := by rw [← eh1, List.length_append]; try simp
  have kh1 : (9223372036854775807 < 5 + b.name.length) = False := eq_false (by omega)
  have zh1 := size_v h1
  obtain ⟨h2, eh2⟩ : ∃ t, h1 ++ [32, 123] = t := ⟨_, rfl⟩
  have ah2 := app_v (h1) ([32, 123])
  rw [eh2] at ah2
  have lh2 : h2.length = h1.length + 2 := by rw [← eh2, List.length_append]; try simp
  have kh2 : (9223372036854775807 < h1.length + 2) = False := eq_false (by omega)
  have zh2 := size_v h2
  have HE : Hid (T = h2 ++ b.pts.flatMap markText ++ [32, 125]) := Lib.hid (by rw [← hT, ← eh2, ← eh1]; rfl)
  have HLN := Lib.hid hlen
  have H := Lib.hid h
  have hl2 : h2.length ≤ 2000007 := by omega
  clear h hms hT hlen eh1 eh2 lh1 lh2
  go_enter Tryz.func13, Tryz.ntmps13
  go_wp2_with fail
  go_loopw [3, 4] (fun ov iv wr => ∃ (i : Nat) (O : List UInt8), ov = strV O ∧ iv = .int .i64 (i : Nat) ∧ i ≤ n ∧ Hid (h2 ++ (b.pts.take i).flatMap markText = O) ∧ Blk wr w.heap.size 38 #[strV b.name, .slice A n c] ∧ Below w.heap.size w wr) (fun _ iv _ => n - (intOf iv).toNat)
  case atStart => exact ⟨0, h2, rfl, rfl, Nat.zero_le _, Lib.hid (by simp), blkAt _ _ _ (by simp), (brefl w).alloc (Nat.le_refl _) _⟩
  case round =>
    obtain ⟨i, O, rfl, rfl, hi, HO, xa, hb⟩ := hrel
    rename World => wa
    have hla : w.heap.size < wa.heap.size := xa.lt
    obtain ⟨cA0, cA1⟩ := xa.c2
    have hfl := flat_len markText b.pts i
    have hsO := size_v O
    have hlO : O.length ≤ 2000007 + 2002010 * n := by
      rw [← HO.out, List.length_append]
      have h9 := HF.out
      rw [HLN.out] at h9
      omega
    rcases Nat.lt_or_ge i n with hlt | hge
    · have hi1 : ((i : Int) < (n : Int)) = True := by simp; omega
      obtain ⟨g, o, m, e1, hg, _, hbi, hM⟩ := (H.out.mk_ hb).at_ hlt
      subst e1
      have hsh := HM.out m (List.mem_of_getElem? hbi)
      obtain ⟨hm1, hm2, hm3⟩ := hsh
      have hfs := flat_step markText hbi
      obtain ⟨d0, ⟨b1, A1, n1, c1, D1, m1, e1, d1, d2, d3, hQ1⟩, ⟨b2, A2, n2, c2, D2, m2, e2, d4, d5, d6, hQ2⟩, hmn⟩ := hM
      have d2 : wa.cell? ⟨g, o + i * 7 + 2, none⟩ = some (.slice A1 n1 c1) := d2
      have d3 : wa.cell? ⟨g, o + i * 7 + 3, none⟩ = some (.slice D1 m1 e1) := d3
      have d5 : wa.cell? ⟨g, o + i * 7 + 5, none⟩ = some (.slice A2 n2 c2) := d5
      have d6 : wa.cell? ⟨g, o + i * 7 + 6, none⟩ = some (.slice D2 m2 e2) := d6
      have hsm := size_v m.name
      obtain ⟨X, hX⟩ : ∃ X, ratText m.x.q = X := ⟨_, rfl⟩
      obtain ⟨Y, hY⟩ : ∃ Y, ratText m.y.q = Y := ⟨_, rfl⟩
      have hsX := size_v X
      have hsY := size_v Y
      have hlX : X.length ≤ 1000 := by rw [← hX]; exact ratText_le hm2 (Nat.le_refl _)
      have hlY : Y.length ≤ 1000 := by rw [← hY]; exact ratText_le hm3 (Nat.le_refl _)
      obtain ⟨s1, es1⟩ : ∃ t, [32] ++ m.name = t := ⟨_, rfl⟩
      have as1 := app_v ([32]) (m.name)
      rw [es1] at as1
      have ls1 : s1.length = 1 + m.name.length := by rw [← es1, List.length_append]; try simp
      have ks1 : (9223372036854775807 < 1 + m.name.length) = False := eq_false (by omega)
      have zs1 := size_v s1
      obtain ⟨s2, es2⟩ : ∃ t, s1 ++ [32] = t := ⟨_, rfl⟩
      have as2 := app_v (s1) ([32])
      rw [es2] at as2
      have ls2 : s2.length = s1.length + 1 := by rw [← es2, List.length_append]; try simp
      have ks2 : (9223372036854775807 < s1.length + 1) = False := eq_false (by omega)
      have zs2 := size_v s2
      obtain ⟨s3, es3⟩ : ∃ t, s2 ++ X = t := ⟨_, rfl⟩
      have as3 := app_v (s2) (X)
      rw [es3] at as3
      have ls3 : s3.length = s2.length + X.length := by rw [← es3, List.length_append]; try simp
      have ks3 : (9223372036854775807 < s2.length + X.length) = False := eq_false (by omega)
      have zs3 := size_v s3
      obtain ⟨s4, es4⟩ : ∃ t, s3 ++ [32] = t := ⟨_, rfl⟩
      have as4 := app_v (s3) ([32])
      rw [es4] at as4
      have ls4 : s4.length = s3.length + 1 := by rw [← es4, List.length_append]; try simp
      have ks4 : (9223372036854775807 < s3.length + 1) = False := eq_false (by omega)
      have zs4 := size_v s4
      obtain ⟨s5, es5⟩ : ∃ t, s4 ++ Y = t := ⟨_, rfl⟩
      have as5 := app_v (s4) (Y)
      rw [es5] at as5
      have ls5 : s5.length = s4.length + Y.length := by rw [← es5, List.length_append]; try simp
      have ks5 : (9223372036854775807 < s4.length + Y.length) = False := eq_false (by omega)
      have zs5 := size_v s5
      obtain ⟨s6, es6⟩ : ∃ t, s5 ++ [59] = t := ⟨_, rfl⟩
      have as6 := app_v (s5) ([59])
      rw [es6] at as6
      have ls6 : s6.length = s5.length + 1 := by rw [← es6, List.length_append]; try simp
      have ks6 : (9223372036854775807 < s5.length + 1) = False := eq_false (by omega)
      have zs6 := size_v s6
      have hmt : markText m = s6 := by
        rw [← es6, ← es5, ← es4, ← es3, ← es2, ← es1, ← hX, ← hY]
        unfold markText
        simp
      rw [hmt] at hfs
      obtain ⟨O2, eO2⟩ : ∃ t, O ++ s6 = t := ⟨_, rfl⟩
      have aO2 := app_v O s6
      rw [eO2] at aO2
      have kO2 : (9223372036854775807 < O.length + s6.length) = False := eq_false (by omega)
      have HX := Lib.hid hX
      have HY := Lib.hid hY
      have HQ1 := Lib.hid hQ1
      have HQ2 := Lib.hid hQ2
      have HO2 : Hid (h2 ++ (b.pts.take (i + 1)).flatMap markText = O2) := Lib.hid (by rw [hfs, ← List.append_assoc, HO.out, eO2])
      have hga : g < wa.heap.size := hg
      clear hX hY hQ1 hQ2 hmt hfl hbi hm1 hm2 hm3 eO2 hfs es1 es2 es3 es4 es5 es6 ls1 ls2 ls3 ls4 ls5 ls6
      go_wp2_with fail
      go_region_held3 (fun w' => Sees wa.heap.size wa w') (first | with_reducible exact Sees.of (Nat.le_refl _) (by assumption) | with_reducible exact Sees.of (Nat.le_refl _) (brefl _).drew | exact Sees.of (Nat.le_refl _) (below_drewN (brefl _) 1) | exact Sees.of (Nat.le_refl _) (below_drewN (by assumption) _))
        (first
          | (go_at_call 15; (with_reducible refine (r_number _ b1 A1 n1 c1 D1 m1 e1 m.x 40 ?_ (by decide) (by decide) X HX.out).mono ?_); (exact HQ1.out.belw (by first | exact qwy | exact brefl _ | exact (brefl wa).drew | exact below_drewN (brefl wa) _)); rintro e' wx ⟨rfl, hwx⟩; have qwx : Below wa.heap.size wa wx := (by first | exact bnext qwy hwx | exact bnext (brefl wa) hwx | exact bnext (below_drewN (brefl wa) _) hwx))
          | (go_at_call 15; (with_reducible refine (r_number _ b2 A2 n2 c2 D2 m2 e2 m.y 40 ?_ (by decide) (by decide) Y HY.out).mono ?_); (exact HQ2.out.belw (by first | exact qwx | exact brefl _ | exact (brefl wa).drew | exact below_drewN (brefl wa) _)); rintro e' wy ⟨rfl, hwy⟩; have qwy : Below wa.heap.size wa wy := (by first | exact bnext qwx hwy | exact bnext (brefl wa) hwy | exact bnext (below_drewN (brefl wa) _) hwy)))
      all_goals
        clear cA0 cA1 d0 d1 d2 d3 d4 d5 d6
        go_wp2_with fail
        go_roundw
        case rel =>
          first
            | exact ⟨i + 1, O2, rfl, by go_num, by omega, HO2, xa.below qwy xa.lt, hb.trans (qwy.mono hb.size)⟩
            | exact ⟨i + 1, O2, rfl, by go_num, by omega, HO2, xa.below qwx xa.lt, hb.trans (qwx.mono hb.size)⟩
        case measure => simp [intOf]; omega
    · have hi1 : ((i : Int) < (n : Int)) = False := by simp; omega
      have hin : b.pts.take i = b.pts := List.take_of_length_le (by rw [HLN.out]; exact hge)
      rw [hin] at HO
      obtain ⟨O2, eO2⟩ : ∃ t, O ++ [32, 125] = t := ⟨_, rfl⟩
      have aO2 := app_v O [32, 125]
      rw [eO2] at aO2
      have kO2 : (9223372036854775807 < O.length + 2) = False := eq_false (by omega)
      have hTT : O2 = T := by rw [← eO2, ← HO.out]; exact HE.out.symm
      subst hTT
      clear eO2 hin
      go_wp2_with fail
      go_ret
      exact ⟨rfl, hb⟩
end
section
variable {H : Type} {enc : TypeId × Value → H} {W : World}
theorem bulk_mem {d : DataW H} {l : List (DataW H)} (h : d ∈ l) : Rows.uptoBulk d ≤ Rows.uptoBulkAll l := by
  induction l with
  | nil => cases h
  | cons x r ih =>
    simp only [Rows.uptoBulkAll]
    rcases List.mem_cons.1 h with e | e
    · subst e; omega
    · have := ih e; omega
theorem bulk_elem {d : DataW H} {l sp : List (DataW H)} (h : d ∈ l) : Rows.uptoBulk d ≤ Rows.uptoBulk (.slice l sp) := by
  have := bulk_mem h
  simp only [Rows.uptoBulk]
  omega
theorem bulk_le {xs : List (DataW H × List MemPlace)} {N : Nat} (h : Rows.uptoBulk (.agg (xs.map (·.1))) ≤ N) {i : Nat} {y : DataW H × List MemPlace} (hy : xs[i]? = some y) : Rows.uptoBulk y.1 ≤ N := by
  have := bulk_mem (l := xs.map (·.1)) (List.mem_map_of_mem (List.mem_of_getElem? hy))
  simp only [Rows.uptoBulk] at h
  omega
theorem bulk_part {xs : List (DataW H × List MemPlace)} {N : Nat} (h : Rows.uptoBulk (.agg (xs.map (·.1))) ≤ N) {i : Nat} {y : DataW H × List MemPlace} (hy : xs[i]? = some y) {s : List UInt8} (hs : y.1 = .lit (.string s)) : s.length ≤ N := by
  have := bulk_le h hy
  rw [hs] at this
  simp only [Rows.uptoBulk] at this
  omega
theorem str_trodU {v : Value} {fuel : Nat} {x : DataW H × List MemPlace} (ht : DataW.trod enc Tryz.prog W 0 (fun _ => true) true fuel 9 [v] = some x) (hz : Szd 9 x.1) : ∃ t : List UInt8, v = strV t ∧ NmL t ∧ x.1 = .lit (.string t) := by
  obtain ⟨t, hv, hn⟩ := str_trod ht hz
  obtain ⟨s, hs, hx, _⟩ := DataW.trod_string Tryz.underlying9 ht
  injection hs with hs _
  rw [hv] at hs
  injection hs with hs
  subst hs
  exact ⟨t, hv, hn, by rw [hx]⟩
theorem SlS.each {α : Type} {P : World → Nat → Nat → α → Prop} {p : α → Prop} {s : Nat} {w : World} {A : Option Addr} {n c : Nat} {l : List α} (h : SlS (fun w g o a => P w g o a ∧ p a) s w A n c l) : ∀ a ∈ l, p a := by
  intro a ha
  obtain ⟨i, hi, e⟩ := List.getElem_of_mem ha
  obtain ⟨g, o, b, _, _, _, hb, hp⟩ := h.at_ (i := i) (by rw [← h.1]; exact hi)
  rw [List.getElem?_eq_getElem hi] at hb
  injection hb with hb
  rw [← e, hb]
  exact hp.2
theorem sls_openG {α : Type} [Inhabited α] (G : TypeId → DataW H → Prop) (hG : ∀ {t e : TypeId} {l sp : List (DataW H)} {d : DataW H}, Tryz.prog.underlying t = some (.slice e) → G t (.slice l sp) → d ∈ l → G e d) (P0 : World → Nat → Nat → α → Prop) {t e : TypeId} (s : Nat) (ht : Tryz.prog.underlying t = some (.slice e)) (hs : Tryz.prog.cellsOf e = s) (hs0 : 0 < s)
    (one : ∀ (fuel : Nat) (cs : List Value) (y : DataW H × List MemPlace) (g o : Nat), cs.length = s → (∀ i, i < s → W.cell? ⟨g, o + i, none⟩ = cs[i]?) → DataW.trod enc Tryz.prog W 0 (fun _ => true) true fuel e cs = some y → G e y.1 → ∃ a, P0 W g o a)
    {v : Value} {fuel : Nat} {x : DataW H × List MemPlace} (h : DataW.trod enc Tryz.prog W 0 (fun _ => true) true fuel t [v] = some x) (hz : G t x.1) : ∃ A n c l, v = .slice A n c ∧ SlS P0 s W A n c l := by
  rcases Go.Deep.open_slice ht h with ⟨hv, _⟩ | ⟨a, len, cap, m, n, D, Pl, hv, _, hl, hm, hmm, hxe, hx⟩
  · injection hv with hv _
    exact ⟨none, 0, 0, [], hv, ⟨rfl, Nat.le_refl _, fun h => absurd h (by omega)⟩⟩
  · injection hv with hv _
    subst hv
    rw [hxe] at hz
    have hmc : m = cap := by simpa using hmm
    subst hmc
    rw [hs] at hx
    rcases Nat.eq_zero_or_pos len with h0 | h0
    · subst h0
      exact ⟨some a, 0, m, [], rfl, ⟨rfl, Nat.zero_le _, fun h => absurd h (by omega)⟩⟩
    · obtain ⟨cs0, hc0, _⟩ := hx 0 (by omega)
      obtain ⟨_, hl0, hce⟩ := World.cells?_some hc0
      have h00 := hce 0 hs0
      rw [some_at (show 0 < cs0.length by omega)] at h00
      have e0 : (a.add (0 * s)).add 0 = a := by simp [Addr.add]
      rw [e0] at h00
      obtain ⟨g, o, rfl, hg⟩ := spot_none h00
      obtain ⟨f, hf⟩ := Go.Deep.choose_lt (n := len) (p := fun i a => P0 W g (o + i * s) a) (fun i hi => by
        obtain ⟨cs, h1, h2⟩ := hx i (by omega)
        obtain ⟨_, h3, h4⟩ := World.cells?_some h1
        refine one n cs _ g (o + i * s) h3 (fun j hj => ?_) h2 (hG ht hz (List.mem_map.2 ⟨i, List.mem_range.2 hi, rfl⟩))
        rw [← h4 j hj, add0, add0])
      refine ⟨_, len, m, (List.range len).map f, rfl, ⟨by simp, hl, fun _ => ⟨g, o, rfl, hg, fun i a ha => ?_⟩⟩⟩
      rw [List.getElem?_map] at ha
      rcases Nat.lt_or_ge i len with hi | hi
      · rw [List.getElem?_range hi] at ha
        injection ha with ha
        subst ha
        exact hf i hi
      · rw [List.getElem?_eq_none (by simpa using hi)] at ha
        cases ha
theorem mark_oneU (fuel : Nat) (cs : List Value) (y : DataW H × List MemPlace) (g o : Nat) (hl : cs.length = 7) (hc : ∀ i, i < 7 → W.cell? ⟨g, o + i, none⟩ = cs[i]?) (ht : DataW.trod enc Tryz.prog W 0 (fun _ => true) true fuel 50 cs = some y) (hu : Szd 50 y.1 ∧ Rows.uptoBulk y.1 ≤ 1048576) : ∃ a, MkAt reachBytes W g o a ∧ a.name.length ≤ 1048576 := by
  obtain ⟨hz, hbk⟩ := hu
  match cs, hl with
  | [v0, v1, v2, v3, v4, v5, v6], _ =>
    obtain ⟨xs, n, _, hx, _, hxl, hf⟩ := DataW.trod_struct Tryz.underlying50 ht
    rw [hx] at hz hbk
    have f0 : DataW.trod enc Tryz.prog W 0 (fun _ => true) true n 9 (List.take (Tryz.prog.cellsOf 9) [v0, v1, v2, v3, v4, v5, v6]) = xs[0]? := hf 0 _ rfl
    have f1 : DataW.trod enc Tryz.prog W 0 (fun _ => true) true n 41 (List.take (Tryz.prog.cellsOf 41) [v1, v2, v3, v4, v5, v6]) = xs[1]? := hf 1 _ rfl
    have f2 : DataW.trod enc Tryz.prog W 0 (fun _ => true) true n 41 (List.take (Tryz.prog.cellsOf 41) [v4, v5, v6]) = xs[2]? := hf 2 _ rfl
    rw [cells_str] at f0
    rw [cells_rat] at f1 f2
    have hx0 : xs.length = 3 := hxl
    rw [some_at (show 0 < xs.length by omega)] at f0
    have z0 := hz.field Tryz.underlying50 (i := 0) rfl (some_at (show 0 < xs.length by omega))
    rw [some_at (show 1 < xs.length by omega)] at f1
    have z1 := hz.field Tryz.underlying50 (i := 1) rfl (some_at (show 1 < xs.length by omega))
    rw [some_at (show 2 < xs.length by omega)] at f2
    have z2 := hz.field Tryz.underlying50 (i := 2) rfl (some_at (show 2 < xs.length by omega))
    obtain ⟨nm, rfl, hn, hd⟩ := str_trodU f0 z0
    have hbn := bulk_part hbk (i := 0) (some_at (show 0 < xs.length by omega)) hd
    obtain ⟨b, A, n1, c, D, m, e, r, rfl, rfl, rfl, h1⟩ := rat_trod f1 z1
    obtain ⟨b', A', n1', c', D', m', e', r', rfl, rfl, rfl, h2⟩ := rat_trod f2 z2
    have k0 := hc 0 (by omega)
    have k1 := hc 1 (by omega)
    have k2 := hc 2 (by omega)
    have k3 := hc 3 (by omega)
    have k4 := hc 4 (by omega)
    have k5 := hc 5 (by omega)
    have k6 := hc 6 (by omega)
    exact ⟨⟨nm, r, r'⟩, ⟨k0, ⟨b, A, n1, c, D, m, e, k1, k2, k3, h1⟩, ⟨b', A', n1', c', D', m', e', k4, k5, k6, h2⟩, hn⟩, by show nm.length ≤ _; omega⟩
variable {base : Nat}
theorem body_openU {v : Value} {d : DataW H} {p : List MemPlace} (hok : Value.okWide Tryz.prog W .any base 38 v) (h : DataW.Trod enc Tryz.prog W 0 (fun _ => true) true 38 v d p) (hu : Szd 38 d ∧ Rows.uptoBulk d ≤ 1048576) :
    ∃ A n c, ∃ b : BodyL, v = .agg #[strV b.name, .slice A n c] ∧ SlS (MkAt reachBytes) 7 W A n c b.pts ∧ b.name.length ≤ 1048576 ∧ ∀ m ∈ b.pts, m.name.length ≤ 1048576 := by
  obtain ⟨hz, hbk⟩ := hu
  obtain ⟨cs, rfl, hsz, _⟩ := cells_ok (ts := [9, 36]) Tryz.underlying38 (by kernel_rfl) (by kernel_rfl) hok
  obtain ⟨fuel, h⟩ := h
  obtain ⟨l⟩ := cs
  match l, hsz with
  | [v0, v1], _ =>
    have ht : DataW.trod enc Tryz.prog W 0 (fun _ => true) true fuel 38 [v0, v1] = some (d, p) := h
    obtain ⟨xs, n, _, hx, _, hxl, hf⟩ := DataW.trod_struct Tryz.underlying38 ht
    injection hx with hx _
    rw [hx] at hz hbk
    have f0 : DataW.trod enc Tryz.prog W 0 (fun _ => true) true n 9 (List.take (Tryz.prog.cellsOf 9) [v0, v1]) = xs[0]? := hf 0 _ rfl
    have f1 : DataW.trod enc Tryz.prog W 0 (fun _ => true) true n 36 (List.take (Tryz.prog.cellsOf 36) [v1]) = xs[1]? := hf 1 _ rfl
    have c1 : Tryz.prog.cellsOf 36 = 1 := by kernel_rfl
    rw [cells_str] at f0
    rw [c1] at f1
    have hx0 : xs.length = 2 := hxl
    rw [some_at (show 0 < xs.length by omega)] at f0
    have z0 := hz.field Tryz.underlying38 (i := 0) rfl (some_at (show 0 < xs.length by omega))
    rw [some_at (show 1 < xs.length by omega)] at f1
    have z1 := hz.field Tryz.underlying38 (i := 1) rfl (some_at (show 1 < xs.length by omega))
    obtain ⟨nm, rfl, hn, hd⟩ := str_trodU f0 z0
    have hbn := bulk_part hbk (i := 0) (some_at (show 0 < xs.length by omega)) hd
    have hb1 := bulk_le hbk (i := 1) (some_at (show 1 < xs.length by omega))
    obtain ⟨A, n1, c, l, rfl, h1⟩ := sls_openG (fun t d => Szd t d ∧ Rows.uptoBulk d ≤ 1048576) (fun h1 h2 h3 => ⟨h2.1.elem h1 h3, Nat.le_trans (bulk_elem h3) h2.2⟩) (fun w g o a => MkAt reachBytes w g o a ∧ a.name.length ≤ 1048576) 7 Tryz.underlying36 (by kernel_rfl) (by decide) mark_oneU f1 ⟨z1, hb1⟩
    exact ⟨A, n1, c, ⟨nm, l⟩, rfl, h1.mono_ fun _ _ _ _ x => x.1, by show nm.length ≤ _; omega, h1.each⟩
theorem rat_openR {v : Value} {d : DataW H} {p : List MemPlace} (hok : Value.okWide Tryz.prog W .any base 41 v) (h : DataW.Trod enc Tryz.prog W 0 (fun _ => true) true 41 v d p) (hz : Szd 41 d) :
    ∃ b A n c D m e r, v = .agg #[.bool b, .slice A n c, .slice D m e] ∧ QD W b A n c D m e r reachBytes := by
  obtain ⟨cs, rfl, hsz, _⟩ := cells_ok (ts := [4, 39, 39]) Tryz.underlying41 (by kernel_rfl) (by kernel_rfl) hok
  obtain ⟨fuel, h⟩ := h
  obtain ⟨l⟩ := cs
  match l, hsz with
  | [v0, v1, v2], _ =>
    obtain ⟨b, A, n, c, D, m, e, r, rfl, rfl, rfl, hq⟩ := rat_trod h hz
    exact ⟨b, A, n, c, D, m, e, r, rfl, hq⟩
theorem bulk_arg {l : List (DataW H)} (hk : Rows.uptoSmall H l = true) {d : DataW H} (hd : d ∈ l) : Rows.uptoBulk d ≤ 1048576 := Nat.le_trans (bulk_mem hd) (of_decide_eq_true hk)
end
end Go.Proofs.YtckjakojllcdoaaGreatDoor

namespace Go.Proofs.YtckjakojllcdoaaGreatDoor
open Go Go.RowKit Bn
section
variable {P : Program} {ops : Array Oper} {Q : Exit → Act → World → Prop} {fr : (Nat → Value) → Act} {R : Nat → Value → World → Prop} {id : Nat} {w : World} {x0 : Nat → Value}
theorem wp_region_grow (hm : P.follows .mixedOrders = true)
    (hput : ∀ i o, ops[i]? = some o → ∀ x v, (fr x).put o.dst v = fr (upd x i v))
    (hac : ∀ i o, ops[i]? = some o → ∀ e ∈ o.after, Region.binds .any e = true → e.on < i)
    (hR : ∀ i v w w', R i v w → Below w.heap.size w w' → R i v w')
    (hstep : ∀ i o, ops[i]? = some o → GrowStep P ops Q fr R w i o)
    (hend : ∀ x w', Below w.heap.size w w' → (∀ i, i < ops.size → R i (x i) w') → Q .normal (fr x) w') :
    (Code.region id ops true).wp P Q (fr x0) w := by
  refine wp_region_any hm (wpAny_inv (fun L a w' => LinG ops fr R w L a w') ?_ ?_ _ _ _ _ (by simp) ?_ ?_)
  · rintro L a w1 i hs hi ⟨x, rfl, hb, hr, hcl⟩
    obtain ⟨hun, o, ho, hall⟩ := mem_ready.1 hi
    have hlt : i < L.size := by
      rcases Nat.lt_or_ge i L.size with h | h
      · exact h
      · rw [Array.getD_eq_getD_getElem?, Array.getElem?_eq_none h] at hun; cases hun
    have hdep : ∀ e ∈ o.after, Region.binds .any e = true → R e.on (x e.on) w1 := fun e he hbd => hr _ (hall e he hbd)
    refine wpOp_step ho fun K' hK => ?_
    refine hstep i o ho x w1 hb hdep K' (fun v w' hRv hbw => hK _ _ ?_)
    refine ⟨upd x i v, hput i o ho x v, hb.trans (hbw.mono hb.size), fun j hj => ?_, linG_hcl hlt ho hall hcl⟩
    by_cases h : j = i
    · subst h; rw [upd_same]; exact hRv
    · rw [upd_ne _ _ h]; rw [getD_set hlt] at hj; exact hR _ _ _ _ (hr j (by simpa [h] using hj)) hbw
  · rintro L a w1 hs hr0 ⟨x, rfl, hb, hr, hcl⟩
    have hallL : ∀ i, i < ops.size → L.getD i false = true := by
      intro i
      induction i using Nat.strongRecOn with
      | ind i ih =>
        intro hi
        cases h : L.getD i false
        · exfalso
          have : i ∈ Region.ready .any ops L := by
            refine mem_ready.2 ⟨?_, ops[i], Array.getElem?_eq_getElem hi, fun e he hbd => ?_⟩
            · rw [Array.getD_eq_getD_getElem?, Array.getElem?_eq_getElem (by omega)] at h ⊢; exact h
            · have h1 := hac i _ (Array.getElem?_eq_getElem hi) e he hbd
              exact ih e.on h1 (by omega)
          rw [hr0] at this; cases this
        · rfl
    exact hend x w1 hb (fun i hi => hr i (hallL i hi))
  · simp
  · have hz : ∀ j, (Array.replicate ops.size false).getD j false = false := by
      intro j; rw [Array.getD_eq_getD_getElem?, Array.getElem?_replicate]; split <;> rfl
    refine ⟨x0, rfl, (Below.refl w.heap.size w).drew, fun i h => ?_, fun i o _ h => ?_⟩ <;> rw [hz] at h <;> cases h
end
end Go.Proofs.YtckjakojllcdoaaGreatDoor

/- Walks: the Print laws: PrintBodies. -/
namespace Go.Proofs.YtckjakojllcdoaaGreatDoor
open Go Go.RowKit Bn
attribute [local go_sem ↓] Go.wp_at_zero Go.wp_at_succ
def oneL (b : BodyL) : LinkL := ⟨[], [b], [], []⟩
theorem lks_one {w : World} {g : Nat} {b : BodyL} {A : Option Addr} {n c : Nat} (h0 : w.cell? ⟨g, 0, none⟩ = some (strV b.name)) (h1 : w.cell? ⟨g, 1, none⟩ = some (.slice A n c)) (hg : g < w.heap.size) (h : SlS (MkAt reachBytes) 7 w A n c b.pts) (hn : NmL b.name) : LkS reachBytes w (some ⟨g, 0, none⟩) 1 1 none 0 0 none 0 0 (oneL b) := by
  refine ⟨by unfold NmL; show (0 : Nat) < _; decide, ?_, ⟨rfl, Nat.le_refl _, fun h => absurd h (by omega)⟩, ⟨rfl, Nat.le_refl _, fun h => absurd h (by omega)⟩⟩
  exact sls1 hg ⟨A, n, c, h0, h1, h, hn⟩
theorem rd40 {w : World} {b : Bool} {A D : Option Addr} {n c m e k : Nat} {r : RD} (h : QD w b A n c D m e r k) (hn : n ≤ 40) (hm : m ≤ 40) : QD w b A n c D m e r 40 := ⟨h.1, h.2.1, h.2.2.1, hn, hm⟩
theorem l_PrintBodies (w : World) (A : Option Addr) (n c : Nat) (b : BodyL) (h : SlS (MkAt reachBytes) 7 w A n c b.pts) (hnm : b.name.length ≤ 1048576) (hms : ∀ m ∈ b.pts, m.name.length ≤ 1048576)
    (b' : Bool) (A' : Option Addr) (n' c' : Nat) (D : Option Addr) (m e : Nat) (r : RD) (hr : QD w b' A' n' c' D m e r reachBytes) (htab : Tab w) : Calls Tryz.prog 4 #[.agg #[strV b.name, .slice A n c], .agg #[.bool b', .slice A' n' c', .slice D m e]] w (RetV w (.bool true)) := by
  have H := Lib.hid h
  have HTab := Lib.hid htab
  have HR := Lib.hid hr
  have HN : Hid (b.name.length ≤ 2000000 ∧ ∀ m ∈ b.pts, m.name.length ≤ 2000000) := Lib.hid ⟨by omega, fun m hm => by have := hms m hm; omega⟩
  obtain ⟨v, hv⟩ : ∃ v, lgL (oneL b) = v := ⟨_, rfl⟩
  have HV := Lib.hid hv
  have hb1 := big47 hr.2.2.2.1
  have hb2 := big47 hr.2.2.2.2
  have hnL : NmL b.name := by unfold NmL; omega
  clear h htab hr hms hv
  go_enter Tryz.func4, Tryz.ntmps4
  go_wp2_with fail
  have q0 : Below w.heap.size w ((w.alloc (.cells #[strV b.name, .slice A n c] 38)).alloc (.cells #[.bool b', .slice A' n' c', .slice D m e] 41)) := ((brefl w).alloc (Nat.le_refl _) _).alloc (by simp) _
  have x0 : Blk ((w.alloc (.cells #[strV b.name, .slice A n c] 38)).alloc (.cells #[.bool b', .slice A' n' c', .slice D m e] 41)) w.heap.size 38 #[strV b.name, .slice A n c] := (blkAt w _ _ rfl).alloc _
  have y0 : Blk ((w.alloc (.cells #[strV b.name, .slice A n c] 38)).alloc (.cells #[.bool b', .slice A' n' c', .slice D m e] 41)) (w.heap.size + 1) 41 #[.bool b', .slice A' n' c', .slice D m e] := blkAt _ _ _ (by simp)
  generalize ((w.alloc (.cells #[strV b.name, .slice A n c] 38)).alloc (.cells #[.bool b', .slice A' n' c', .slice D m e] 41)) = w0 at q0 x0 y0 ⊢
  (with_reducible refine (l21_awake w0 (HTab.out.belw q0)).mono ?_); rintro e1 w1 ⟨rfl, hb1⟩
  have q1 := q0.trans (hb1.mono q0.size)
  have x1 := x0.below hb1 x0.lt
  have y1 := y0.below hb1 y0.lt
  have hl1 : w.heap.size < w1.heap.size := x1.lt
  have hm1 : w.heap.size + 1 < w1.heap.size := y1.lt
  have c0 := x1.cell 0
  have c1 := x1.cell 1
  clear x0 y0 q0 hb1
  go_wp2_with fail
  have qs : Below w1.heap.size w1 (w1.alloc (.cells #[strV b.name, .slice A n c] 38)) := (brefl w1).alloc (Nat.le_refl _) _
  have z1 : Blk (w1.alloc (.cells #[strV b.name, .slice A n c] 38)) w1.heap.size 38 #[strV b.name, .slice A n c] := blkAt _ _ _ rfl
  have q2 := q1.trans (qs.mono q1.size)
  have x2 := x1.below qs x1.lt
  have y2 := y1.below qs y1.lt
  clear c0 c1 x1 y1 q1
  generalize (w1.alloc (.cells #[strV b.name, .slice A n c] 38)) = w2 at q2 x2 y2 z1 ⊢
  have hOne := lks_one (z1.cell 0) (z1.cell 1) z1.lt (H.out.mk_ q2) hnL
  (refine (l_large w2 (some ⟨w1.heap.size, 0, none⟩) 1 1 none 0 0 none 0 0 (oneL b) hOne v HV.out).mono ?_); rintro e1 w3 ⟨rfl, hb3⟩
  have q3 := q2.trans (hb3.mono q2.size)
  have xa := x2.below hb3 x2.lt
  have xb := y2.below hb3 y2.lt
  have hl3 : w.heap.size < w3.heap.size := xa.lt
  have hm3 : w.heap.size + 1 < w3.heap.size := xb.lt
  clear qs z1 q2 x2 y2 hb3 hOne
  cases v
  rotate_left
  · go_wp2_with fail
    (with_reducible refine (l21_awake w3 (HTab.out.belw q3)).mono ?_); rintro e1 w4 ⟨rfl, hb4⟩
    have q4 := q3.trans (hb4.mono q3.size)
    go_wp2_with fail
    go_ret
    exact ⟨rfl, q4⟩
  have d1 := xb.cell 1
  have d2 := xb.cell 2
  have u1 : IntKind.i64.wrap ((n' : Int) + (m : Int)) = (n' : Int) + (m : Int) := wrap_i64 (by omega) (by omega)
  by_cases h40 : 40 < n' + m
  · have f4 : ((40 : Int) < (n' : Int) + (m : Int)) = True := eq_true (by omega)
    go_wp2_with fail
    (with_reducible refine (l21_awake w3 (HTab.out.belw q3)).mono ?_); rintro e1 w4 ⟨rfl, hb4⟩
    have q4 := q3.trans (hb4.mono q3.size)
    go_wp2_with fail
    go_ret
    exact ⟨rfl, q4⟩
  have f4 : ((40 : Int) < (n' : Int) + (m : Int)) = False := eq_false (by omega)
  have h1 : lgB b = false := by
    have := HV.out
    unfold lgL oneL at this
    simp only [Bool.or_eq_false_iff, List.any_cons] at this
    exact this.2.1
  unfold lgB at h1
  rw [Bool.or_eq_false_iff] at h1
  have HB := Lib.hid ((H.out.marks40 h1.2).mk_ q3)
  have hn40 : n ≤ 40 := by
    have := h1.1
    rw [H.out.1] at this
    simpa using this
  have HR' := Lib.hid ((rd40 HR.out (by omega) (by omega)).belw q3)
  have HTb := Lib.hid (HTab.out.belw q3)
  clear HR HTab h1 H
  have HR := HR'
  have HTab := HTb
  clear HR' HTb
  obtain ⟨T, hT⟩ : ∃ T, bodyText b = T := ⟨_, rfl⟩
  obtain ⟨X, hX⟩ : ∃ X, ratText r.q = X := ⟨_, rfl⟩
  have HT := Lib.hid hT
  have HX := Lib.hid hX
  clear hT hX
  go_wp2_with fail
  clear d1 d2
  refine wp_region_grow (fr := fun xf => ⟨List.toArray (.agg #[strV b.name, .slice A n c] :: .agg #[.bool b', .slice A' n' c', .slice D m e] :: .pointer (some ⟨w.heap.size, 0, none⟩) :: .pointer (some ⟨w.heap.size + 1, 0, none⟩) :: xf 12 :: .bool true :: .bool false :: .bool false :: .agg #[strV b.name, .slice A n c] :: .slice (some ⟨w1.heap.size, 0, none⟩) 1 1 :: .agg #[.string ⟨#[]⟩, .slice (some ⟨w1.heap.size, 0, none⟩) 1 1, .slice none 0 0, .slice none 0 0] :: .bool false :: .bool false :: .bool false :: .pointer (some ⟨w.heap.size + 1, 1, none⟩) :: .slice A' n' c' :: Value.int .i64 (n' : Nat) :: .pointer (some ⟨w.heap.size + 1, 2, none⟩) :: .slice D m e :: Value.int .i64 (m : Nat) :: Value.int .i64 ((n' : Int) + (m : Int)) :: .bool false :: .bool false :: undef :: xf 0 :: xf 1 :: xf 2 :: xf 3 :: xf 4 :: xf 5 :: xf 6 :: xf 7 :: xf 8 :: xf 9 :: xf 10 :: xf 11 :: []), []⟩) (R := fun ri => List.getD ((PEq (.agg #[strV b.name, .slice A n c])) :: (PEq (strV T)) :: (PEq (.agg #[strV b.name, .slice A n c])) :: (PEq (strV T)) :: (PEq (.bool true)) :: (PEq (.bool true)) :: (PEq (.agg #[.bool b', .slice A' n' c', .slice D m e])) :: (PEq (strV X)) :: (PEq (.agg #[.bool b', .slice A' n' c', .slice D m e])) :: (PEq (strV X)) :: (PEq (.bool true)) :: (PEq (.bool true)) :: (PEq (.bool true)) :: []) ri (fun _ _ => True)) (x0 := (upd (fun _ => undef) 12 (.bool false))) (by kernel_rfl)
    (each_of ⟨fun _ _ => rfl, fun _ _ => rfl, fun _ _ => rfl, fun _ _ => rfl, fun _ _ => rfl, fun _ _ => rfl, fun _ _ => rfl, fun _ _ => rfl, fun _ _ => rfl, fun _ _ => rfl, fun _ _ => rfl, fun _ _ => rfl, fun _ _ => rfl, trivial⟩) (each_of (acyc_from _ 0 (by kernel_rfl))) (AllGrw.get _ ⟨gEq _, gEq _, gEq _, gEq _, gEq _, gEq _, gEq _, gEq _, gEq _, gEq _, gEq _, gEq _, gEq _, trivial⟩) (each_of ⟨?_, ?_, ?_, ?_, ?_, ?_, ?_, ?_, ?_, ?_, ?_, ?_, ?_, trivial⟩) ?_
  · exact fun xf wq hb hd K hK => by
        have hc0 : wq.cell? ⟨w.heap.size, 0, none⟩ = some (strV b.name) := (xa.below hb xa.lt).cell 0
        have hc1 : wq.cell? ⟨w.heap.size, 1, none⟩ = some (.slice A n c) := (xa.below hb xa.lt).cell 1
        (try dsimp only)
        go_simp
        have hz := hK.out (.agg #[strV b.name, .slice A n c]) _ rfl (brefl _)
        exact hz
  · exact fun xf wq hb hd K hK => by
        have dq0 : xf 0 = .agg #[strV b.name, .slice A n c] := hd ⟨0, .data⟩ (by simp) rfl
        (try dsimp only); (try simp only [dq0])
        go_simp
        go_at_call 12
        (with_reducible refine (p_bodyL _ A n c b (HB.out.mk_ hb) (HTab.out.belw hb) (by omega) HN.out.1 HN.out.2 T HT.out).mono ?_); rintro e1 wr ⟨rfl, hbr⟩
        have hz := hK.out (strV T) _ rfl hbr
        simp only [dq0] at hz
        exact hz
  · exact fun xf wq hb hd K hK => by
        have hc0 : wq.cell? ⟨w.heap.size, 0, none⟩ = some (strV b.name) := (xa.below hb xa.lt).cell 0
        have hc1 : wq.cell? ⟨w.heap.size, 1, none⟩ = some (.slice A n c) := (xa.below hb xa.lt).cell 1
        (try dsimp only)
        go_simp
        have hz := hK.out (.agg #[strV b.name, .slice A n c]) _ rfl (brefl _)
        exact hz
  · exact fun xf wq hb hd K hK => by
        have dq2 : xf 2 = .agg #[strV b.name, .slice A n c] := hd ⟨2, .data⟩ (by simp) rfl
        (try dsimp only); (try simp only [dq2])
        go_simp
        go_at_call 13
        (with_reducible refine (r_bodyL _ A n c b (HB.out.mk_ hb) (by omega) HN.out.1 HN.out.2 T HT.out).mono ?_); rintro e1 wr ⟨rfl, hbr⟩
        have hz := hK.out (strV T) _ rfl hbr
        simp only [dq2] at hz
        exact hz
  · exact fun xf wq hb hd K hK => by
        have dq1 : xf 1 = strV T := hd ⟨1, .data⟩ (by simp) rfl
        have dq3 : xf 3 = strV T := hd ⟨3, .data⟩ (by simp) rfl
        (try dsimp only); (try simp only [dq1, dq3])
        go_simp
        have hz := hK.out (.bool true) _ rfl (brefl _)
        simp only [dq1, dq3] at hz
        exact hz
  · exact fun xf wq hb hd K hK => by
        have dq4 : xf 4 = .bool true := hd ⟨4, .data⟩ (by simp) rfl
        (try dsimp only); (try simp only [dq4])
        go_simp
        have hz := hK.out (.bool true) _ rfl (brefl _)
        simp only [dq4] at hz
        exact hz
  · exact fun xf wq hb hd K hK => by
        have dq5 : xf 5 = .bool true := hd ⟨5, .guard⟩ (by simp) rfl
        have hc0 : wq.cell? ⟨w.heap.size + 1, 0, none⟩ = some (.bool b') := (xb.below hb xb.lt).cell 0
        have hc1 : wq.cell? ⟨w.heap.size + 1, 1, none⟩ = some (.slice A' n' c') := (xb.below hb xb.lt).cell 1
        have hc2 : wq.cell? ⟨w.heap.size + 1, 2, none⟩ = some (.slice D m e) := (xb.below hb xb.lt).cell 2
        (try dsimp only); (try simp only [dq5])
        go_simp
        have hz := hK.out (.agg #[.bool b', .slice A' n' c', .slice D m e]) _ rfl (brefl _)
        simp only [dq5] at hz
        exact hz
  · exact fun xf wq hb hd K hK => by
        have dq6 : xf 6 = .agg #[.bool b', .slice A' n' c', .slice D m e] := hd ⟨6, .data⟩ (by simp) rfl
        have dq5 : xf 5 = .bool true := hd ⟨5, .guard⟩ (by simp) rfl
        (try dsimp only); (try simp only [dq6, dq5])
        go_simp
        go_at_call 14
        (with_reducible refine (p_number _ b' A' n' c' D m e r 40 (HR.out.belw hb) (by decide) (by decide) (HTab.out.belw hb) X HX.out).mono ?_); rintro e1 wr ⟨rfl, hbr⟩
        have hz := hK.out (strV X) _ rfl hbr
        simp only [dq6, dq5] at hz
        exact hz
  · exact fun xf wq hb hd K hK => by
        have dq5 : xf 5 = .bool true := hd ⟨5, .guard⟩ (by simp) rfl
        have hc0 : wq.cell? ⟨w.heap.size + 1, 0, none⟩ = some (.bool b') := (xb.below hb xb.lt).cell 0
        have hc1 : wq.cell? ⟨w.heap.size + 1, 1, none⟩ = some (.slice A' n' c') := (xb.below hb xb.lt).cell 1
        have hc2 : wq.cell? ⟨w.heap.size + 1, 2, none⟩ = some (.slice D m e) := (xb.below hb xb.lt).cell 2
        (try dsimp only); (try simp only [dq5])
        go_simp
        have hz := hK.out (.agg #[.bool b', .slice A' n' c', .slice D m e]) _ rfl (brefl _)
        simp only [dq5] at hz
        exact hz
  · exact fun xf wq hb hd K hK => by
        have dq8 : xf 8 = .agg #[.bool b', .slice A' n' c', .slice D m e] := hd ⟨8, .data⟩ (by simp) rfl
        have dq5 : xf 5 = .bool true := hd ⟨5, .guard⟩ (by simp) rfl
        (try dsimp only); (try simp only [dq8, dq5])
        go_simp
        go_at_call 15
        (with_reducible refine (r_number _ b' A' n' c' D m e r 40 (HR.out.belw hb) (by decide) (by decide) X HX.out).mono ?_); rintro e1 wr ⟨rfl, hbr⟩
        have hz := hK.out (strV X) _ rfl hbr
        simp only [dq8, dq5] at hz
        exact hz
  · exact fun xf wq hb hd K hK => by
        have dq7 : xf 7 = strV X := hd ⟨7, .data⟩ (by simp) rfl
        have dq9 : xf 9 = strV X := hd ⟨9, .data⟩ (by simp) rfl
        have dq5 : xf 5 = .bool true := hd ⟨5, .guard⟩ (by simp) rfl
        (try dsimp only); (try simp only [dq7, dq9, dq5])
        go_simp
        have hz := hK.out (.bool true) _ rfl (brefl _)
        simp only [dq7, dq9, dq5] at hz
        exact hz
  · exact fun xf wq hb hd K hK => by
        have dq5 : xf 5 = .bool true := hd ⟨5, .data⟩ (by simp) rfl
        have dq10 : xf 10 = .bool true := hd ⟨10, .data⟩ (by simp) rfl
        (try dsimp only); (try simp only [dq5, dq10])
        go_simp
        have hz := hK.out (.bool true) _ rfl (brefl _)
        simp only [dq5, dq10] at hz
        exact hz
  · exact fun xf wq hb hd K hK => by
        have dq11 : xf 11 = .bool true := hd ⟨11, .data⟩ (by simp) rfl
        (try dsimp only); (try simp only [dq11])
        go_simp
        have hz := hK.out (.bool true) _ rfl (brefl _)
        simp only [dq11] at hz
        exact hz
  intro y4 w4 hb4 hr4
  have bw4 := q3.trans (hb4.mono q3.size)
  have ea : y4 12 = .bool true := hr4 12 (by decide)
  (try dsimp only)
  simp only [ea]
  clear hr4 ea
  go_wp2_with fail
  go_ret
  exact ⟨rfl, bw4⟩
end Go.Proofs.YtckjakojllcdoaaGreatDoor

/- PrintBodies (second form): Body returns the text of any body, Number that of any fraction, as the reference does; for every input of bulk at most 1048576 the law returns true. The listed library variables are tied to the program text. -/
namespace Go.Proofs.YtckjakojllcdoaaGreatDoor
open Go Go.RowKit Bn Go.ChangeShapes Go.WideShapes Go.ChangeAt
theorem bodies_contract (H : Type) (enc : TypeId × Value → H) (W : World) (base : Nat) (args : Array Value) (ds gs : List (DataW H)) (before : List MemPlace)
    (hval0 : ∀ (j : Nat) t v, Tryz.f4.params[j]? = some t → args[j]? = some v → Value.okWide Tryz.prog W .any base t v)
    (hW : DataW.Whole enc Tryz.prog Tryz.f4.params.toList Rows.printBodiesSpec.vars false W args.toList ds gs before) (hL : laidMetH Tryz.prog Rows.printBodiesUptoRow.laid W) (hwt : (DataW.weightsEach Tryz.prog (Tryz.f4.params.toList ++ (OpenSpec.ofChange Rows.printBodiesSpec).bare.plain.varTypes Tryz.prog) (ds ++ gs)).all (· ≤ reachBytes) = true) (hsm : Rows.uptoSmall H (ds ++ gs) = true) :
    Calls Tryz.prog 4 args W fun e W' => ∃ v, e = .returned v ∧ Rows.printBodiesSpec.post enc Tryz.prog Tryz.f4 false true false false W args v W' := by
  have hval : ∀ (j : Nat) t v, Tryz.f4.params[j]? = some t → args[j]? = some v → Value.okWide Tryz.prog W .any base t v := hval0
  have htab : Tab W := tab_of_laid hL
  have hW' := hW
  obtain ⟨p, q, hA0, hV, rfl, hfz, hnd⟩ := hW
  have hA : DataW.TrodAll enc Tryz.prog W 0 (fun _ => true) true Tryz.f4.params.toList args.toList ds p := hA0
  rw [Tryz.params4] at hA hval
  obtain ⟨v0, v1, d0, d1, p0, p1, rfl, rfl, rfl, h0, h1⟩ := trodAll_two hA
  obtain ⟨rfl, rfl⟩ := trodVars_none hV
  obtain ⟨A, n, c, b, rfl, H, N, M⟩ := body_openU (hval 0 _ v0 rfl rfl) h0 ⟨szd_of hwt (j := 0) rfl rfl, bulk_arg hsm (by simp)⟩
  obtain ⟨x, X, nx, cx, Y, my, ey, r, rfl, HR⟩ := rat_openR (hval 1 _ v1 rfl rfl) h1 (szd_of hwt (j := 1) rfl rfl)
  refine (l_PrintBodies W A n c b H N M x X nx cx Y my ey r HR htab).mono fun e W' ⟨he, hb⟩ => ?_
  subst he
  exact ⟨_, rfl, law_post laid_out Tryz.underlying4 hW' rfl rfl (by kernel_rfl) rfl rfl rfl hb⟩
theorem bodies_lifted (os : Os) (started : os.Started) (H : Type) (enc : TypeId × Value → H) (F : Stop.Interp) :
    ReturnsInHanded {} Tryz.checked os 4 .any ((Rows.OpenSpec.upto Rows.printBodiesSpec).preRow enc Tryz.prog Tryz.f4 Rows.printBodiesUptoRow.domain false Rows.printBodiesUptoRow.laid) (((Rows.OpenSpec.upto Rows.printBodiesSpec).at F).post enc Tryz.prog Tryz.f4 false true false false) := by
  have hx : DataW.whole enc Tryz.prog ((laidWorld os).forCall (fun _ _ => 0) ⟨#[], #[.agg #[.string ⟨#[]⟩, .slice none 0 0], .agg #[.bool false, .slice none 0 0, .slice none 0 0]], []⟩).memory Tryz.f4.params.toList Rows.printBodiesSpec.vars false (#[.agg #[.string ⟨#[]⟩, .slice none 0 0], .agg #[.bool false, .slice none 0 0, .slice none 0 0]] : Array Value).toList 8 = some ([.agg [.lit (.string []), .nil], .agg [.lit (.bool false), .nil, .nil]], [], []) := by kernel_rfl
  have hl : laidMet Tryz.prog Rows.printBodiesUptoRow.laid ((laidWorld os).forCall (fun _ _ => 0) ⟨#[], #[.agg #[.string ⟨#[]⟩, .slice none 0 0], .agg #[.bool false, .slice none 0 0, .slice none 0 0]], []⟩).memory := laidMet_of_run' 8 (by kernel_rfl) (by kernel_rfl)
  refine returnsInHanded_of_row (C := Tryz.checked) (s := Rows.OpenSpec.upto Rows.printBodiesSpec) own_knob started (by kernel_rfl) Tryz.func4
    (witness_row_at (enc := enc) (C := Tryz.checked) false (laidWorld os) #[.agg #[.string ⟨#[]⟩, .slice none 0 0], .agg #[.bool false, .slice none 0 0, .slice none 0 0]] rfl (by kernel_rfl) (by kernel_rfl) (by kernel_rfl)
      (OpenSpec.preRow_of_cond 8 hx (by kernel_rfl) (fun k hk => by cases hk; kernel_rfl) (by kernel_rfl) hl)) ?_
  intro W base args ds gs before hval hW _ hcond hwt hL hsh _
  exact bodies_contract H enc W base args ds gs before hval hW hL hwt (hcond _ rfl)
theorem bodies_j2 : (Rows.printBodiesUptoRow.inPlace == Tryz.pinned.checked.prog.inPlace 4) = true := by kernel_rfl
theorem bodies_j3 : (Rows.printBodiesUptoRow.unfollowed == Tryz.pinned.checked.prog.unfollowed 4) = true := by kernel_rfl
theorem bodies_j4 : (Rows.printBodiesUptoRow.recurses == Tryz.pinned.checked.prog.recurses 4) = true := by kernel_rfl
theorem bodies_j5 : (Rows.printBodiesUptoRow.named == Tryz.pinned.checked.prog.varsNamed 4) = true := by kernel_rfl
theorem bodies_joined : joinedFacts Tryz.pinned.checked.prog 4 Tryz.f4 (Rows.OpenSpec.upto Rows.printBodiesSpec).bare Rows.printBodiesUptoRow = true := joined_parts (by kernel_rfl) bodies_j2 bodies_j3 bodies_j4 bodies_j5 (by kernel_rfl)
theorem bodies_inst : Tryz.f4.isInstance Tryz.pinned.checked.prog Rows.printBodiesUptoRow.origin Rows.printBodiesUptoRow.targs := of_decide_eq_true (by kernel_rfl)
theorem bodies_said : Rows.PrintBodiesUptoSaid :=
  OpenClaim.holds_of_cond 4 Tryz.f4 rfl rfl rfl rfl rfl rfl rfl ⟨rfl, rfl, rfl, rfl, rfl⟩ rfl rfl rfl rfl rfl (by kernel_rfl) Tryz.func4 bodies_joined
    bodies_inst (by unfold Func.isWrapper; first | (rw [if_pos (by decide +kernel)]; kernel_rfl) | (rw [if_neg (by decide +kernel)]; exact ⟨rfl, rfl⟩))
    (fun os started H enc _ F => by rw [OpenClaim.pre_eq_preRow]; exact bodies_lifted os started H enc F)
theorem bodies_plain (f : FuncId) (fn : Func) (hf : Tryz.pinned.checked.prog.funcNamed "linkwork/linkworklaw21.PrintBodies" = some f) (hfn : Tryz.pinned.checked.prog.funcs[f]? = some fn) :
    true = Tryz.pinned.checked.prog.looks [] ∧ ∀ (j : Nat) t, fn.params[j]? = some t → Tryz.pinned.checked.prog.wantsStandIn t = false := by
  obtain rfl : f = 4 := Option.some.inj ((show Tryz.prog.funcNamed "linkwork/linkworklaw21.PrintBodies" = some 4 by kernel_rfl).symm.trans hf) |>.symm
  obtain rfl : fn = Tryz.f4 := (Option.some.inj (Tryz.func4.symm.trans hfn)).symm
  refine ⟨by kernel_rfl, fun j t ht => ?_⟩
  rw [Tryz.params4] at ht
  have hm : t ∈ [38, 41] := by
    have := Array.mem_of_getElem? ht
    simp at this ⊢
    first
      | exact this
      | exact .inl this
  have hall : ([38, 41].all fun u => !Tryz.prog.wantsStandIn u) = true := by kernel_rfl
  exact (show Tryz.prog.wantsStandIn t = false by simpa using List.all_eq_true.1 hall t hm)
theorem bodies_holds : Rows.PrintBodiesUptoCardSaid :=
  Claim7.holds_tied_plain_at .later [] _ _ _ _ bodies_said (fun _ h => by cases h) (by kernel_rfl) (fun _ h => by cases h) printBodiesUpto_row_tie rfl ⟨rfl, rfl⟩ (by kernel_rfl) rfl bodies_plain (by kernel_rfl)
end Go.Proofs.YtckjakojllcdoaaGreatDoor
