/- ParseOrders: bodies, joints and drivers stand in the order of the text; for every input the law returns true. The listed library variables are tied to the program text. -/
import Derived.Below
import Derived.Laws.OwnMore
import Derived.Deep.Draws
import Derived.OneCell
import Derived.Laws.Rows
import Derived.Test.YtoiijifnfdgfpaaGreatDoorProg
import Derived.WalkKit
import Derived.WalkSpells
import Derived.WalkLawsBesides
import Derived.BigQuiet
import Derived.Deep.QuietTactic
import Derived.Deep.AppendLies
import Derived.Lib.Hide
import Derived.Deep.RegionHeld3
import Derived.Deep.DrawnRows
import Derived.Shelf.Strings.Builder1
import Derived.Shelf.Strings.Builder2
import Derived.Shelf.Strings.OnBuilder
import Derived.Shelf.Strings.Trim
import Derived.Shelf.Small.Utf8
import Derived.Shelf.Small.Bits
import Derived.Shelf.Small.Strs
import Derived.Shelf.Small.Wraps
import Derived.Shelf.Strings.BuilderF
import Derived.Shelf.Strings.BuilderK
import Derived.Shelf.Strings.Builder2Cap
import Derived.Shelf.Strconv.Atoi
import Derived.Shelf.Strconv.Itoa0
import Derived.Shelf.Strconv.Itoa1
import Derived.Shelf.LaysM
import Derived.Shelf.Strconv.Itoa2
import Derived.Shelf.Strconv.Itoa3
import Derived.Shelf.Strings.Search1
import Derived.Shelf.Strings.Search2
import Derived.Shelf.Strings.Cut
import Derived.Shelf.Strings.Shaped
import Derived.Shelf.Strings.Prefix
import Derived.Shelf.Strings.Runes
import Derived.Shelf.Strings.AsciiSet
import Derived.Shelf.Bits.Mul64
import Derived.Shelf.Strings.Repeat
import Derived.Shelf.Unicode.DecodeSlow
import Derived.Shelf.Strings.BuilderCap
import Derived.IntWalk
import Derived.Deep.DeepCutAuto
import Derived.Deep.RegionHeld
import Derived.Lib.ItoaNum
import Derived.Lib.ItoaMem
import Derived.Lib.Repeat
import Derived.Lib.Join
import Derived.Lib.Atoi
import Derived.Lib.SlTrimSet
import Derived.Lib.AppendIntMem
import Derived.Shelf.Strings.SlTrimAscii
import Derived.Lib.IndexMore
import Derived.Laws.StructEq
import Derived.Test.YtoiijifnfdgfpaaGreatDoorCards
import Derived.Test.YtoiijifnfdgfpaaGreatDoorTie
import Derived.ProofKit
import Derived.OpenShut
import Derived.Deep.DeepHandedRow
import Derived.Lib.LaidTab
import Derived.Shelf.Vars
import Derived.ChangeMaps5
import Derived.Test.YtoiijifnfdgfpaaGreatDoorA5
set_option linter.unusedVariables false
set_option maxHeartbeats 8000000
set_option maxRecDepth 100000
namespace Go.Proofs.YtoiijifnfdgfpaaGreatDoor
open Go Go.RowKit Bn

theorem info_str : (Tryz.prog.info? 9).map (fun i => (i.zero, i.size, i.bytes)) = some (some (.string ⟨#[]⟩), 1, 16) := by kernel_rfl
end Go.Proofs.YtoiijifnfdgfpaaGreatDoor

namespace Go.Proofs.YtoiijifnfdgfpaaGreatDoor
open Go Go.RowKit Bn

theorem b_is (w : World) (x : Int) : Calls Tryz.prog 26 #[.iface 63 (.int .i64 x), .int .i64 x] w (RetV w (.bool true)) := by
 go_enter Tryz.func26, Tryz.ntmps26
 go_wp2_with (go_at_call 16; (with_reducible refine (b_num_err _ x).mono ?_); rintro e w1 ⟨rfl, hb1⟩)
 go_ret
 exact ⟨rfl, hb1⟩
end Go.Proofs.YtoiijifnfdgfpaaGreatDoor

/- Reading, plain: what tokens look like that are read. -/
namespace Go.Proofs.YtoiijifnfdgfpaaGreatDoor
open Go Go.RowKit Bn
theorem none_x {s s' : PS} (h : ∀ d, Stp d s s') : s'.x ≠ 0 := fun hx => by have := ((h (s.toks.length + 1)).2.2.1 hx).2; omega
theorem fail_x (s : PS) (e : Int) (he : e ≠ 0) : (s.fail e).x ≠ 0 := none_x fun d => fail_stp s e he d
theorem kt_cons {s : PS} {t : Tkn} {r : List Tkn} (e : s.toks = t :: r) : kt s.toks = (t.kind, t.text) :: kt s.drop1.toks := by
  unfold PS.drop1
  rw [e]; rfl
theorem word_inv {s : PS} (h : s.word.2.x = 0) : s.x = 0 ∧ kt s.toks = (0, s.word.1) :: kt s.word.2.toks := by
  rcases next_cases s 0 with ⟨t, r, hx, e, hk, h1⟩ | ⟨s', h1, hs⟩
  · have e1 : s.word = (t.text, s.drop1) := by unfold PS.word; rw [h1]
    rw [e1]
    exact ⟨hx, by rw [kt_cons e, hk]⟩
  · have e1 : s.word = ([], s') := by unfold PS.word; rw [h1]
    rw [e1] at h
    exact absurd h (none_x hs)
theorem expect_inv {s : PS} {k : Nat} {t : List UInt8} (h : (s.expect k t).x = 0) : s.x = 0 ∧ kt s.toks = (k, t) :: kt (s.expect k t).toks := by
  rcases next_cases s k with ⟨t0, r, hx, e, hk, h1⟩ | ⟨s', h1, hs⟩
  · have e1 : s.expect k t = if t0.text = t then s.drop1 else s.fail 2 := by unfold PS.expect; rw [h1]
    rw [e1] at h ⊢
    split at h
    · rename_i h2
      rw [if_pos h2]
      exact ⟨hx, by rw [kt_cons e, hk, h2]⟩
    · exact absurd h (fail_x s 2 (by decide))
  · have e1 : s.expect k t = s' := by unfold PS.expect; rw [h1]
    rw [e1] at h
    exact absurd h (none_x hs)
theorem number_inv {s : PS} (h : s.number.2.x = 0) : s.x = 0 ∧ ∃ u, kt s.toks = (1, u) :: kt s.number.2.toks := by
  rcases next_cases s 1 with ⟨t0, r, hx, e, hk, h1⟩ | ⟨s', h1, hs⟩
  · have e1 : s.number = if valX t0.text ≠ 0 then (0, s.fail (valX t0.text)) else (valQ t0.text, s.drop1) := by unfold PS.number; rw [h1]
    rw [e1] at h ⊢
    split at h
    · rename_i h2
      exact absurd h (fail_x s _ h2)
    · rename_i h2
      rw [if_neg h2]
      exact ⟨hx, t0.text, by rw [kt_cons e, hk]⟩
  · have e1 : s.number = (0, s') := by unfold PS.number; rw [h1]
    rw [e1] at h
    exact absurd h (none_x hs)
def mkR (m : List UInt8 × List UInt8 × List UInt8) : List (Nat × List UInt8) := [(0, m.1), (1, m.2.1), (1, m.2.2), (2, [59])]
theorem mark_inv {s : PS} (h : s.mark.2.x = 0) : s.x = 0 ∧ ∃ m, kt s.toks = mkR m ++ kt s.mark.2.toks := by
  have h4 : (s.word.2.number.2.number.2.expect 2 [59]).x = 0 := h
  obtain ⟨h3, e4⟩ := expect_inv h4
  obtain ⟨h2, v, e3⟩ := number_inv h3
  obtain ⟨h1, u, e2⟩ := number_inv h2
  obtain ⟨h0, e1⟩ := word_inv h1
  exact ⟨h0, (s.word.1, u, v), by rw [e1, e2, e3, e4]; rfl⟩
theorem marks_inv : ∀ (f : Nat) (s : PS) (l : List MarkL), s.toks.length < f → (PS.marks f s l).2.x = 0 → s.x = 0 ∧ ∃ ms : List (List UInt8 × List UInt8 × List UInt8), kt s.toks = ms.flatMap mkR ++ (2, [125]) :: kt (PS.marks f s l).2.toks
  | 0, s, l, hf, _ => by omega
  | f + 1, s, l, hf, h => by
    by_cases hx : s.x = 0
    · cases hs : s.signHead
      · rw [marks_step (by omega) hx hs] at h ⊢
        have h1 := ((marks_stp _ _ _).2.2.1 h).1
        have h2 := ((mark_stp s).2.2.1 h1).2
        obtain ⟨_, ms, e⟩ := marks_inv (f + 1 - 1) s.mark.2 _ (by omega) h
        obtain ⟨_, m, e2⟩ := mark_inv h1
        exact ⟨hx, m :: ms, by rw [e2, e, List.flatMap_cons, List.append_assoc]⟩
      · rw [marks_end (by omega) hx hs] at h ⊢
        exact ⟨hx, [], (expect_inv h).2⟩
    · rw [marks_x hx] at h
      exact absurd h hx
theorem body_inv {s : PS} (h : s.body.2.x = 0) : s.x = 0 ∧ ∃ ms : List (List UInt8 × List UInt8 × List UInt8), kt s.toks = (0, s.body.1.name) :: (2, [123]) :: (ms.flatMap mkR ++ (2, [125]) :: kt s.body.2.toks) := by
  have h3 : (PS.marks (s.toks.length + 1) (s.word.2.expect 2 [123]) []).2.x = 0 := h
  have hl := ((word_stp s).trans (expect_stp s.word.2 2 [123])).1
  obtain ⟨h2, ms, e3⟩ := marks_inv _ _ _ (by omega) h3
  obtain ⟨h1, e2⟩ := expect_inv h2
  obtain ⟨h0, e1⟩ := word_inv h1
  exact ⟨h0, ms, by rw [e1, e2, e3]; rfl⟩
theorem named_inv {s : PS} {only : Int} (h : (s.named only).2.x = 0) : s.x = 0 ∧ ∃ b, kt s.toks = (0, b) :: kt (s.named only).2.toks := by
  have key : s.word.2.x = 0 ∧ (s.named only).2 = s.word.2 := by
    unfold PS.named at h ⊢
    simp only at h ⊢
    split at h
    · rename_i hx; exact absurd h hx
    · rename_i hx
      rw [if_neg hx]
      have hx : s.word.2.x = 0 := by simpa using hx
      split at h
      · rename_i i hi
        simp only at h
        split at h
        · exact absurd h (fail_x _ 7 (by decide))
        · rename_i h2
          exact ⟨hx, if_neg h2⟩
      · exact absurd h (fail_x _ 5 (by decide))
  obtain ⟨h1, e1⟩ := word_inv key.1
  rw [key.2]
  exact ⟨h1, _, e1⟩
theorem full_inv {s : PS} {only : Int} (h : (s.full only).2.2.x = 0) : s.x = 0 ∧ ∃ b p, kt s.toks = (0, b) :: (2, [46]) :: (0, p) :: kt (s.full only).2.2.toks := by
  have key : (((s.named only).2.expect 2 [46]).word).2.x = 0 ∧ (s.full only).2.2 = (((s.named only).2.expect 2 [46]).word).2 := by
    unfold PS.full at h ⊢
    simp only at h ⊢
    split at h
    · rename_i hx; exact absurd h hx
    · rename_i hx
      rw [if_neg hx]
      have hx : (((s.named only).2.expect 2 [46]).word).2.x = 0 := by simpa using hx
      split at h
      · exact ⟨hx, rfl⟩
      · exact absurd h (fail_x _ 5 (by decide))
  obtain ⟨h3, e3⟩ := word_inv key.1
  obtain ⟨h2, e2⟩ := expect_inv h3
  obtain ⟨h1, b, e1⟩ := named_inv h2
  rw [key.2]
  exact ⟨h1, b, _, by rw [e1, e2, e3]⟩
inductive ItmR where
  | body (nm : List UInt8) (ms : List (List UInt8 × List UInt8 × List UInt8))
  | pin (nm a p b o : List UInt8)
  | slide (nm a p b o d t : List UInt8)
  | driver (nm b : List UInt8)
def ItmR.nm : ItmR → List UInt8
  | .body nm _ => nm
  | .pin nm _ _ _ _ => nm
  | .slide nm _ _ _ _ _ _ => nm
  | .driver nm _ => nm
def ItmR.kd : ItmR → List UInt8
  | .body _ _ => wBody
  | .pin _ _ _ _ _ => wPin
  | .slide _ _ _ _ _ _ _ => wSlide
  | .driver _ _ => wDriver
def ItmR.tl : ItmR → List (Nat × List UInt8)
  | .body _ ms => (2, [123]) :: (ms.flatMap mkR ++ [(2, [125])])
  | .pin _ a p b o => [(0, a), (2, [46]), (0, p), (0, b), (2, [46]), (0, o), (2, [59])]
  | .slide _ a p b o d t => [(0, a), (2, [46]), (0, p), (0, b), (2, [46]), (0, o), (0, d), (2, [46]), (0, t), (2, [59])]
  | .driver _ b => [(0, b), (2, [59])]
def ItmR.kts (i : ItmR) : List (Nat × List UInt8) := (0, i.kd) :: (0, i.nm) :: i.tl
def ItmR.bN (i : ItmR) : List (List UInt8) := if i.kd = wBody then [i.nm] else []
def ItmR.dN (i : ItmR) : List (List UInt8) := if i.kd = wDriver then [i.nm] else []
def ItmR.jN (i : ItmR) : List (List UInt8) := if i.kd = wPin ∨ i.kd = wSlide then [i.nm] else []
structure NmsL (L M : LinkL) (I : List ItmR) : Prop where
  b : M.bodies.map BodyL.name = L.bodies.map BodyL.name ++ I.flatMap ItmR.bN
  j : M.joints.map JointL.name = L.joints.map JointL.name ++ I.flatMap ItmR.jN
  d : M.drivers.map DriverL.name = L.drivers.map DriverL.name ++ I.flatMap ItmR.dN
theorem joint_inv0 {s : PS} (h : (s.joint false).x = 0) : s.x = 0 ∧ ∃ (a p b o : List UInt8) (j : JointL), kt s.toks = (0, s.word.1) :: [(0, a), (2, [46]), (0, p), (0, b), (2, [46]), (0, o), (2, [59])] ++ kt (s.joint false).toks ∧ (s.joint false).L = { s.L with joints := s.L.joints ++ [j] } ∧ j.name = s.word.1 := by
  have hL0 := (word_stp s).sameL
  unfold PS.joint at h ⊢
  simp only [Bool.false_eq_true, if_false] at h ⊢
  obtain ⟨fa, hfa⟩ : ∃ z, s.word.2.full (-1) = z := ⟨_, rfl⟩
  rw [hfa] at h ⊢
  obtain ⟨fb, hfb⟩ : ∃ z, fa.2.2.full (-1) = z := ⟨_, rfl⟩
  rw [hfb] at h ⊢
  have h4 : (fb.2.2.expect 2 [59]).x = 0 := h
  obtain ⟨h3, e4⟩ := expect_inv h4
  have hb := full_inv (s := fa.2.2) (only := -1)
  rw [hfb] at hb
  obtain ⟨h2, b, o, e3⟩ := hb h3
  have ha := full_inv (s := s.word.2) (only := -1)
  rw [hfa] at ha
  obtain ⟨h1, a, p, e2⟩ := ha h2
  obtain ⟨h0, e1⟩ := word_inv h1
  have hL1 := (full_stp s.word.2 (-1)).sameL
  rw [hfa] at hL1
  have hL2 := (full_stp fa.2.2 (-1)).sameL
  rw [hfb] at hL2
  have hL3 := (expect_stp fb.2.2 2 [59]).sameL
  refine ⟨h0, a, p, b, o, ⟨s.word.1, 0, fa.1, fa.2.1, fb.1, fb.2.1, 0⟩, ?_, ?_, rfl⟩
  · rw [e1, e2, e3, e4]; rfl
  · show ({ (fb.2.2.expect 2 [59]).L with joints := (fb.2.2.expect 2 [59]).L.joints ++ [_] } : LinkL) = _
    rw [hL3, hL2, hL1, hL0]
theorem joint_inv1 {s : PS} (h : (s.joint true).x = 0) : s.x = 0 ∧ ∃ (a p b o d t : List UInt8) (j : JointL), kt s.toks = (0, s.word.1) :: [(0, a), (2, [46]), (0, p), (0, b), (2, [46]), (0, o), (0, d), (2, [46]), (0, t), (2, [59])] ++ kt (s.joint true).toks ∧ (s.joint true).L = { s.L with joints := s.L.joints ++ [j] } ∧ j.name = s.word.1 := by
  have hL0 := (word_stp s).sameL
  unfold PS.joint at h ⊢
  simp only [if_true] at h ⊢
  obtain ⟨fa, hfa⟩ : ∃ z, s.word.2.full (-1) = z := ⟨_, rfl⟩
  rw [hfa] at h ⊢
  obtain ⟨fb, hfb⟩ : ∃ z, fa.2.2.full (-1) = z := ⟨_, rfl⟩
  rw [hfb] at h ⊢
  obtain ⟨ft, hft⟩ : ∃ z, fb.2.2.full fb.1 = z := ⟨_, rfl⟩
  rw [hft] at h ⊢
  have h5 : (ft.2.2.expect 2 [59]).x = 0 := h
  obtain ⟨h4, e5⟩ := expect_inv h5
  have ht := full_inv (s := fb.2.2) (only := fb.1)
  rw [hft] at ht
  obtain ⟨h3, d, t, e4⟩ := ht h4
  have hb := full_inv (s := fa.2.2) (only := -1)
  rw [hfb] at hb
  obtain ⟨h2, b, o, e3⟩ := hb h3
  have ha := full_inv (s := s.word.2) (only := -1)
  rw [hfa] at ha
  obtain ⟨h1, a, p, e2⟩ := ha h2
  obtain ⟨h0, e1⟩ := word_inv h1
  have hL1 := (full_stp s.word.2 (-1)).sameL
  rw [hfa] at hL1
  have hL2 := (full_stp fa.2.2 (-1)).sameL
  rw [hfb] at hL2
  have hL3 := (full_stp fb.2.2 fb.1).sameL
  rw [hft] at hL3
  have hL4 := (expect_stp ft.2.2 2 [59]).sameL
  refine ⟨h0, a, p, b, o, d, t, ⟨s.word.1, 1, fa.1, fa.2.1, fb.1, fb.2.1, ft.2.1⟩, ?_, ?_, rfl⟩
  · rw [e1, e2, e3, e4, e5]; rfl
  · show ({ (ft.2.2.expect 2 [59]).L with joints := (ft.2.2.expect 2 [59]).L.joints ++ [_] } : LinkL) = _
    rw [hL4, hL3, hL2, hL1, hL0]
theorem driver_inv {s : PS} (h : s.driver.x = 0) : s.x = 0 ∧ ∃ (b : List UInt8) (j : DriverL), kt s.toks = (0, s.word.1) :: [(0, b), (2, [59])] ++ kt s.driver.toks ∧ s.driver.L = { s.L with drivers := s.L.drivers ++ [j] } ∧ j.name = s.word.1 := by
  have hL0 := (word_stp s).sameL
  unfold PS.driver at h ⊢
  simp only at h ⊢
  obtain ⟨fa, hfa⟩ : ∃ z, s.word.2.named (-1) = z := ⟨_, rfl⟩
  rw [hfa] at h ⊢
  have h3 : (fa.2.expect 2 [59]).x = 0 := h
  obtain ⟨h2, e3⟩ := expect_inv h3
  have ha := named_inv (s := s.word.2) (only := -1)
  rw [hfa] at ha
  obtain ⟨h1, b, e2⟩ := ha h2
  obtain ⟨h0, e1⟩ := word_inv h1
  have hL1 := (named_stp s.word.2 (-1)).sameL
  rw [hfa] at hL1
  have hL2 := (expect_stp fa.2 2 [59]).sameL
  refine ⟨h0, b, ⟨s.word.1, fa.1⟩, ?_, ?_, rfl⟩
  · rw [e1, e2, e3]; rfl
  · show ({ (fa.2.expect 2 [59]).L with drivers := (fa.2.expect 2 [59]).L.drivers ++ [_] } : LinkL) = _
    rw [hL2, hL1, hL0]
theorem item_inv {s : PS} (h : s.item.x = 0) : s.x = 0 ∧ ∃ i : ItmR, kt s.toks = i.kts ++ kt s.item.toks ∧ NmsL s.L s.item.L [i] := by
  have hsL := (word_stp s).sameL
  have hw := word_inv (s := s)
  unfold PS.item at h ⊢
  simp only at h ⊢
  generalize s.word.1 = nm at h hw ⊢
  generalize s.word.2 = s' at h hsL hw ⊢
  split at h
  · rename_i c1
    rw [if_pos c1]
    obtain ⟨h1, ms, e1⟩ := body_inv (s := s') h
    obtain ⟨h0, e0⟩ := hw h1
    have hbL := (body_stp s').sameL
    refine ⟨h0, .body s'.body.1.name ms, ?_, ?_, ?_, ?_⟩
    · rw [e0, e1, c1]
      show _ = (0, wBody) :: (0, s'.body.1.name) :: (2, [123]) :: ((ms.flatMap mkR ++ [(2, [125])]) ++ kt s'.body.2.toks)
      rw [List.append_assoc]; rfl
    · show (s'.body.2.L.bodies ++ [s'.body.1]).map BodyL.name = _
      rw [hbL, hsL, List.map_append]; rfl
    · show s'.body.2.L.joints.map JointL.name = _
      rw [hbL, hsL]; exact (List.append_nil _).symm
    · show s'.body.2.L.drivers.map DriverL.name = _
      rw [hbL, hsL]; exact (List.append_nil _).symm
  · rename_i c1
    rw [if_neg c1]
    split at h
    · rename_i c2
      rw [if_pos c2]
      obtain ⟨h1, a, p, b, o, j, e1, eL, ej⟩ := joint_inv0 h
      obtain ⟨h0, e0⟩ := hw h1
      refine ⟨h0, .pin s'.word.1 a p b o, ?_, ?_, ?_, ?_⟩
      · rw [e0, e1, c2]; rfl
      · rw [eL, hsL]; exact (List.append_nil _).symm
      · rw [eL, hsL, ← ej]
        show (s.L.joints ++ [j]).map JointL.name = _
        rw [List.map_append]; rfl
      · rw [eL, hsL]; exact (List.append_nil _).symm
    · rename_i c2
      rw [if_neg c2]
      split at h
      · rename_i c3
        rw [if_pos c3]
        obtain ⟨h1, a, p, b, o, d, t, j, e1, eL, ej⟩ := joint_inv1 h
        obtain ⟨h0, e0⟩ := hw h1
        refine ⟨h0, .slide s'.word.1 a p b o d t, ?_, ?_, ?_, ?_⟩
        · rw [e0, e1, c3]; rfl
        · rw [eL, hsL]; exact (List.append_nil _).symm
        · rw [eL, hsL, ← ej]
          show (s.L.joints ++ [j]).map JointL.name = _
          rw [List.map_append]; rfl
        · rw [eL, hsL]; exact (List.append_nil _).symm
      · rename_i c3
        rw [if_neg c3]
        split at h
        · rename_i c4
          rw [if_pos c4]
          obtain ⟨h1, b, j, e1, eL, ej⟩ := driver_inv h
          obtain ⟨h0, e0⟩ := hw h1
          refine ⟨h0, .driver s'.word.1 b, ?_, ?_, ?_, ?_⟩
          · rw [e0, e1, c4]; rfl
          · rw [eL, hsL]; exact (List.append_nil _).symm
          · rw [eL, hsL]; exact (List.append_nil _).symm
          · rw [eL, hsL, ← ej]
            show (s.L.drivers ++ [j]).map DriverL.name = _
            rw [List.map_append]; rfl
        · exact absurd h (fail_x _ 2 (by decide))
theorem items_inv : ∀ (f : Nat) (s : PS), s.toks.length < f → (PS.items f s).x = 0 → ∃ I : List ItmR, kt s.toks = I.flatMap ItmR.kts ∧ NmsL s.L (PS.items f s).L I
  | 0, s, hf, _ => by omega
  | f + 1, s, hf, h => by
    by_cases hs : s.x = 0 ∧ s.toks ≠ []
    · rw [items_step (by omega) hs] at h ⊢
      have hx : s.item.x = 0 := by
        by_cases hx : s.item.x = 0
        · exact hx
        · rw [items_end (fun k => hx k.1)] at h; exact h
      have h1 := (item_len s).2 hx
      obtain ⟨_, i, e1, n1⟩ := item_inv hx
      obtain ⟨I, e2, n2⟩ := items_inv (f + 1 - 1) s.item (by omega) h
      refine ⟨i :: I, by rw [e1, e2, List.flatMap_cons], ?_, ?_, ?_⟩
      · rw [n2.b, n1.b, List.append_assoc]; simp
      · rw [n2.j, n1.j, List.append_assoc]; simp
      · rw [n2.d, n1.d, List.append_assoc]; simp
    · rw [items_end hs] at h ⊢
      have e : s.toks = [] := by
        by_cases e : s.toks = []
        · exact e
        · exact absurd ⟨h, e⟩ hs
      exact ⟨[], by rw [e]; rfl, by simp, by simp, by simp⟩
theorem read_inv {l : List Tkn} (h : (readL l).x = 0) : ∃ nm I, kt l = (0, wLinkage) :: (0, nm) :: (2, [59]) :: I.flatMap ItmR.kts ∧ NmsL L0 (readL l).L I := by
  unfold readL at h ⊢
  simp only at h ⊢
  generalize hs0 : (⟨l, L0, 0⟩ : PS) = s at h ⊢
  have hk : kt s.toks = kt l := by rw [← hs0]
  have hsl : s.toks.length = l.length := by rw [← hs0]
  have hsL : s.L = L0 := by rw [← hs0]
  have hlen := ((expect_stp s 0 wLinkage).trans (word_stp (s.expect 0 wLinkage)))
  have hL2 := hlen.sameL
  generalize hs3 : ({ ((s.expect 0 wLinkage).word.2) with L := { ((s.expect 0 wLinkage).word.2).L with name := ((s.expect 0 wLinkage).word.1) } } : PS) = s3 at h ⊢
  have a1 : s3.toks = (s.expect 0 wLinkage).word.2.toks := by rw [← hs3]
  have a2 : s3.x = (s.expect 0 wLinkage).word.2.x := by rw [← hs3]
  have a3 : s3.L.bodies = [] ∧ s3.L.joints = [] ∧ s3.L.drivers = [] := by
    rw [← hs3]
    show ((s.expect 0 wLinkage).word.2).L.bodies = [] ∧ ((s.expect 0 wLinkage).word.2).L.joints = [] ∧ ((s.expect 0 wLinkage).word.2).L.drivers = []
    rw [hL2, hsL]
    exact ⟨rfl, rfl, rfl⟩
  have hl3 := (expect_stp s3 2 [59]).1
  have hl4 := (expect_stp s3 2 [59]).sameL
  have hl5 := hlen.1
  rw [← a1] at hl5
  obtain ⟨I, e1, n1⟩ := items_inv (l.length + 1) (s3.expect 2 [59]) (by omega) h
  have hx : (s3.expect 2 [59]).x = 0 := by
    by_cases hx : (s3.expect 2 [59]).x = 0
    · exact hx
    · rw [items_end (fun k => hx k.1)] at h; exact h
  obtain ⟨h3, e3⟩ := expect_inv hx
  rw [a2] at h3
  obtain ⟨h2, e2⟩ := word_inv h3
  obtain ⟨h1, e0⟩ := expect_inv h2
  refine ⟨(s.expect 0 wLinkage).word.1, I, ?_, ?_, ?_, ?_⟩
  · rw [← hk, e0, e2, ← a1, e3, e1]
  · have := n1.b
    rw [hl4, a3.1] at this
    exact this
  · have := n1.j
    rw [hl4, a3.2.1] at this
    exact this
  · have := n1.d
    rw [hl4, a3.2.2] at this
    exact this
end Go.Proofs.YtoiijifnfdgfpaaGreatDoor

/- Reading, plain: the first words of the things of a text. -/
namespace Go.Proofs.YtoiijifnfdgfpaaGreatDoor
open Go Go.RowKit Bn
def four (t : List UInt8) : Bool := t == wBody || t == wPin || t == wSlide || t == wDriver
def dl (t : List UInt8) : Int := if t = [123] then 1 else if t = [125] then -1 else 0
def en (t : List UInt8) : Bool := t == [125] || t == [59]
def depK (K : List (Nat × List UInt8)) : Int := (K.map fun p => dl p.2).sum
def firstB (K : List (Nat × List UInt8)) (i : Nat) : Bool := match K[i]? with
  | some p => p.1 == 0 && four p.2 && decide (i ≠ 0) && decide (depK (K.take i) = 0) && (match K[i - 1]? with | some q => en q.2 | none => false)
  | none => false
def itTo (K : List (Nat × List UInt8)) : Nat → List (List UInt8 × List UInt8)
  | 0 => []
  | i + 1 => itTo K i ++ if firstB K i then [((K[i]?.getD (0, [])).2, (K[i + 1]?.getD (0, [])).2)] else []
def scan : Int → Bool → List (Nat × List UInt8) → List (List UInt8 × List UInt8)
  | _, _, [] => []
  | d, pb, t :: r => (if t.1 == 0 && four t.2 && decide (d = 0) && pb then [(t.2, (r.headD (0, [])).2)] else []) ++ scan (d + dl t.2) (en t.2) r
theorem it_scan (K : List (Nat × List UInt8)) : ∀ (R P : List (Nat × List UInt8)), K = P ++ R → itTo K K.length = itTo K P.length ++ scan (depK P) (match P.getLast? with | some q => en q.2 | none => false) R
  | [], P, h => by
    rw [List.append_nil] at h
    subst h
    simp [scan]
  | t :: R, P, h => by
    have h1 := it_scan K R (P ++ [t]) (by rw [h]; simp)
    have hl : (P ++ [t]).length = P.length + 1 := by simp
    rw [hl] at h1
    have e0 : K[P.length]? = some t := by rw [h]; simp
    have e1 : (K[P.length + 1]?.getD (0, [])).2 = (R.headD (0, [])).2 := by
      rw [h]
      cases R with
      | nil => simp
      | cons u R => simp
    have e2 : K.take P.length = P := by rw [h]; simp
    have e3 : depK (P ++ [t]) = depK P + dl t.2 := by unfold depK; simp
    have e4 : (P ++ [t]).getLast? = some t := by simp
    rw [h1, e3, e4]
    have e5 : itTo K (P.length + 1) = itTo K P.length ++ if firstB K P.length then [((K[P.length]?.getD (0, [])).2, (K[P.length + 1]?.getD (0, [])).2)] else [] := rfl
    rw [e5, e1, e0]
    have e6 : firstB K P.length = (t.1 == 0 && four t.2 && decide (depK P = 0) && (match P.getLast? with | some q => en q.2 | none => false)) := by
      unfold firstB
      rw [e0]
      simp only
      rw [e2]
      cases hP : P.getLast? with
      | none =>
        have : P = [] := List.getLast?_eq_none_iff.1 hP
        subst this
        simp
      | some q =>
        have hne : P ≠ [] := by rintro rfl; simp at hP
        have hp : 0 < P.length := List.length_pos_iff.2 hne
        have e7 : K[P.length - 1]? = some q := by
          rw [h, List.getElem?_append_left (by omega), ← List.getLast?_eq_getElem?]; exact hP
        rw [e7]
        simp only
        have : decide (P.length ≠ 0) = true := by simp; exact hne
        rw [this, Bool.and_true]
    rw [e6, List.append_assoc]
    rfl
def GdK (K : List (Nat × List UInt8)) : Prop := ∀ p ∈ K, p.1 ≠ 2 → dl p.2 = 0 ∧ en p.2 = false
theorem scan_w {d : Int} {k : Nat} {t : List UInt8} {r : List (Nat × List UInt8)} (h : dl t = 0 ∧ en t = false) : scan d false ((k, t) :: r) = scan d false r := by
  rw [scan]
  simp [h.1, h.2]
theorem scan_1 {pb : Bool} {k : Nat} {t : List UInt8} {r : List (Nat × List UInt8)} (h : dl t = 0) : scan 1 pb ((k, t) :: r) = scan 1 (en t) r := by
  rw [scan]
  simp [h]
theorem scan_2 {d : Int} {pb : Bool} {t : List UInt8} {r : List (Nat × List UInt8)} : scan d pb ((2, t) :: r) = scan (d + dl t) (en t) r := by
  rw [scan]
  simp
theorem scan_f {t : List UInt8} {r : List (Nat × List UInt8)} (h : dl t = 0 ∧ en t = false) (h4 : four t = true) : scan 0 true ((0, t) :: r) = (t, (r.headD (0, [])).2) :: scan 0 false r := by
  rw [scan]
  simp [h.1, h.2, h4]
theorem scan_marks : ∀ (ms : List (List UInt8 × List UInt8 × List UInt8)) (pb : Bool) (r : List (Nat × List UInt8)), GdK (ms.flatMap mkR) → ∃ pb', scan 1 pb (ms.flatMap mkR ++ r) = scan 1 pb' r
  | [], pb, r, _ => ⟨pb, rfl⟩
  | m :: ms, pb, r, h => by
    obtain ⟨pb', e⟩ := scan_marks ms (en [59]) r fun p hp => h p (by rw [List.flatMap_cons]; exact List.mem_append_right _ hp)
    have g : ∀ p ∈ mkR m, p.1 ≠ 2 → dl p.2 = 0 ∧ en p.2 = false := fun p hp => h p (by rw [List.flatMap_cons]; exact List.mem_append_left _ hp)
    have g0 := g (0, m.1) (by simp [mkR]) (by simp)
    have g1 := g (1, m.2.1) (by simp [mkR]) (by simp)
    have g2 := g (1, m.2.2) (by simp [mkR]) (by simp)
    refine ⟨pb', ?_⟩
    rw [List.flatMap_cons, List.append_assoc]
    show scan 1 pb ((0, m.1) :: (1, m.2.1) :: (1, m.2.2) :: (2, [59]) :: (ms.flatMap mkR ++ r)) = _
    rw [scan_1 g0.1, scan_1 g1.1, scan_1 g2.1, scan_1 (by decide), e]
theorem scan_item {i : ItmR} {r : List (Nat × List UInt8)} (h : GdK i.kts) : scan 0 true (i.kts ++ r) = (i.kd, i.nm) :: scan 0 true r := by
  have gn := h (0, i.nm) (by simp [ItmR.kts]) (by simp)
  cases i with
  | body nm ms =>
    have gn : dl nm = 0 ∧ en nm = false := gn
    have gm : GdK (ms.flatMap mkR) := fun p hp => h p (by simp [ItmR.kts, ItmR.tl]; simp at hp; exact .inr (.inr (.inr (.inl hp))))
    show scan 0 true ((0, wBody) :: (0, nm) :: (2, [123]) :: ((ms.flatMap mkR ++ [(2, [125])]) ++ r)) = _
    rw [scan_f (by decide) (by decide), scan_w gn, scan_2, show (0 : Int) + dl [123] = 1 from rfl, List.append_assoc]
    obtain ⟨pb', e⟩ := scan_marks ms (en [123]) ([(2, [125])] ++ r) gm
    rw [e]
    show _ :: scan 1 pb' ((2, [125]) :: r) = _
    rw [scan_2]
    rfl
  | pin nm a p b o =>
    have gn : dl nm = 0 ∧ en nm = false := gn
    have g := fun (t : List UInt8) (ht : ((0 : Nat), t) ∈ (ItmR.pin nm a p b o).kts) => h _ ht (by simp)
    have ga := g a (by simp [ItmR.kts, ItmR.tl])
    have gp := g p (by simp [ItmR.kts, ItmR.tl])
    have gb := g b (by simp [ItmR.kts, ItmR.tl])
    have go := g o (by simp [ItmR.kts, ItmR.tl])
    show scan 0 true ((0, wPin) :: (0, nm) :: (0, a) :: (2, [46]) :: (0, p) :: (0, b) :: (2, [46]) :: (0, o) :: (2, [59]) :: r) = _
    rw [scan_f (by decide) (by decide), scan_w gn, scan_w ga, scan_w (by decide), scan_w gp, scan_w gb, scan_w (by decide), scan_w go, scan_2]
    rfl
  | slide nm a p b o d t =>
    have gn : dl nm = 0 ∧ en nm = false := gn
    have g := fun (u : List UInt8) (ht : ((0 : Nat), u) ∈ (ItmR.slide nm a p b o d t).kts) => h _ ht (by simp)
    have ga := g a (by simp [ItmR.kts, ItmR.tl])
    have gp := g p (by simp [ItmR.kts, ItmR.tl])
    have gb := g b (by simp [ItmR.kts, ItmR.tl])
    have go := g o (by simp [ItmR.kts, ItmR.tl])
    have gd := g d (by simp [ItmR.kts, ItmR.tl])
    have gt := g t (by simp [ItmR.kts, ItmR.tl])
    show scan 0 true ((0, wSlide) :: (0, nm) :: (0, a) :: (2, [46]) :: (0, p) :: (0, b) :: (2, [46]) :: (0, o) :: (0, d) :: (2, [46]) :: (0, t) :: (2, [59]) :: r) = _
    rw [scan_f (by decide) (by decide), scan_w gn, scan_w ga, scan_w (by decide), scan_w gp, scan_w gb, scan_w (by decide), scan_w go, scan_w gd, scan_w (by decide), scan_w gt, scan_2]
    rfl
  | driver nm b =>
    have gn : dl nm = 0 ∧ en nm = false := gn
    have gb := h (0, b) (by simp [ItmR.kts, ItmR.tl]) (by simp)
    show scan 0 true ((0, wDriver) :: (0, nm) :: (0, b) :: (2, [59]) :: r) = _
    rw [scan_f (by decide) (by decide), scan_w gn, scan_w gb, scan_2]
    rfl
theorem scan_items : ∀ (I : List ItmR), GdK (I.flatMap ItmR.kts) → scan 0 true (I.flatMap ItmR.kts) = I.map fun i => (i.kd, i.nm)
  | [], _ => rfl
  | i :: I, h => by
    rw [List.flatMap_cons, scan_item fun p hp => h p (by rw [List.flatMap_cons]; exact List.mem_append_left _ hp), scan_items I fun p hp => h p (by rw [List.flatMap_cons]; exact List.mem_append_right _ hp)]
    rfl
theorem kt_len' (l : List Tkn) : (kt l).length = l.length := by unfold kt; simp
theorem it_read {K : List (Nat × List UInt8)} {nm : List UInt8} {I : List ItmR} (h : K = (0, wLinkage) :: (0, nm) :: (2, [59]) :: I.flatMap ItmR.kts) (hg : GdK K) : itTo K K.length = I.map fun i => (i.kd, i.nm) := by
  have := it_scan K K [] rfl
  rw [this]
  show [] ++ scan 0 false K = _
  have gn := hg (0, nm) (by rw [h]; simp) (by simp)
  rw [List.nil_append, h, scan_w (by decide), scan_w gn, scan_2]
  exact scan_items I fun p hp => hg p (by rw [h]; simp; exact .inr (.inr (.inr (by simpa using hp))))
theorem good_gd {k : Nat} {x : List UInt8} (h : GoodT k x) (hk : k ≠ 2) : dl x = 0 ∧ en x = false := by
  have key : ∀ c : UInt8, isSgn c = true → x ≠ [c] := by
    intro c hc e
    obtain ⟨r, n, h1, h2⟩ := h
    have h3 := firstT_ok h1
    cases r with
    | nil => simp at h3; omega
    | cons d u =>
      obtain ⟨m, rfl⟩ : ∃ m, n = m + 1 := ⟨n - 1, by omega⟩
      rw [List.take_succ_cons] at h2
      rw [h2] at e
      injection e with e _
      subst e
      unfold firstT at h1
      simp only [hc, if_true] at h1
      injection h1 with h1 _
      exact hk h1.symm
  have k1 := key 123 (by decide)
  have k2 := key 125 (by decide)
  have k3 := key 59 (by decide)
  unfold dl en
  simp [k1, k2, k3]
theorem split_gd {s : List UInt8} {l : List Tkn} (h : SplitOut s 0 l) : GdK (kt l) := by
  intro p hp hk
  unfold kt at hp
  obtain ⟨t, ht, rfl⟩ := List.mem_map.1 hp
  rcases h with ⟨_, h, _⟩ | ⟨_, h, _⟩ | ⟨n, _, _, hx, hl⟩
  · cases h
  · exact good_gd (toks_good _ _ _ _ _ h t ht) hk
  · subst hl; cases ht
/-! Names as they are wanted. -/
structure OrdS where
  b : Nat
  j : Nat
  d : Nat
  w : List (List UInt8)
def ordStep (L : LinkL) (s : OrdS) (k : List UInt8) : OrdS :=
  if k = wBody then { s with b := s.b + 1, w := s.w ++ (match L.bodies[s.b]? with | some x => [x.name] | none => []) }
  else if k = wDriver then { s with d := s.d + 1, w := s.w ++ (match L.drivers[s.d]? with | some x => [x.name] | none => []) }
  else { s with j := s.j + 1, w := s.w ++ (match L.joints[s.j]? with | some x => [x.name] | none => []) }
theorem map_at {α : Type} {nm : α → List UInt8} {l : List α} {a b : List (List UInt8)} {x : List UInt8} (h : l.map nm = a ++ x :: b) : ∃ y, l[a.length]? = some y ∧ nm y = x := by
  have h1 : (l.map nm)[a.length]? = some x := by rw [h]; simp
  rw [List.getElem?_map] at h1
  cases h2 : l[a.length]? with
  | none => rw [h2] at h1; cases h1
  | some y => rw [h2] at h1; injection h1 with h1; exact ⟨y, rfl, h1⟩
theorem ord_all {L : LinkL} {I : List ItmR} (h : NmsL L0 L I) : ∀ (R P : List ItmR), I = P ++ R → (R.map ItmR.kd).foldl (ordStep L) ⟨(P.flatMap ItmR.bN).length, (P.flatMap ItmR.jN).length, (P.flatMap ItmR.dN).length, P.map ItmR.nm⟩ = ⟨L.bodies.length, L.joints.length, L.drivers.length, I.map ItmR.nm⟩
  | [], P, e => by
    rw [List.append_nil] at e
    subst e
    have hb := congrArg List.length h.b
    have hj := congrArg List.length h.j
    have hd := congrArg List.length h.d
    simp only [List.length_map, List.length_append, L0, List.map_nil, List.length_nil, Nat.zero_add] at hb hj hd
    show (⟨_, _, _, _⟩ : OrdS) = _
    rw [hb, hj, hd]
  | i :: R, P, e => by
    have ih := ord_all h R (P ++ [i]) (by rw [e]; simp)
    rw [List.map_cons, List.foldl_cons, ← ih]
    congr 1
    have hb := h.b
    have hj := h.j
    have hd := h.d
    simp only [L0, List.map_nil, List.nil_append] at hb hj hd
    rw [e, List.flatMap_append, List.flatMap_cons] at hb hj hd
    have sb : (P ++ [i]).flatMap ItmR.bN = P.flatMap ItmR.bN ++ i.bN := by simp
    have sj : (P ++ [i]).flatMap ItmR.jN = P.flatMap ItmR.jN ++ i.jN := by simp
    have sd : (P ++ [i]).flatMap ItmR.dN = P.flatMap ItmR.dN ++ i.dN := by simp
    have sn : (P ++ [i]).map ItmR.nm = P.map ItmR.nm ++ [i.nm] := by simp
    rw [sb, sj, sd, sn, List.length_append, List.length_append, List.length_append]
    unfold ordStep
    simp only
    by_cases k1 : i.kd = wBody
    · have e1 : i.bN = [i.nm] := if_pos k1
      have e2 : i.jN = [] := if_neg (by rw [k1]; decide)
      have e3 : i.dN = [] := if_neg (by rw [k1]; decide)
      rw [e1] at hb
      obtain ⟨y, hy, hn⟩ := map_at (by simpa using hb)
      rw [if_pos k1, hy, e1, e2, e3]
      simp [hn]
    · rw [if_neg k1]
      by_cases k2 : i.kd = wDriver
      · have e1 : i.bN = [] := if_neg k1
        have e2 : i.jN = [] := if_neg (by rw [k2]; decide)
        have e3 : i.dN = [i.nm] := if_pos k2
        rw [e3] at hd
        obtain ⟨y, hy, hn⟩ := map_at (by simpa using hd)
        rw [if_pos k2, hy, e1, e2, e3]
        simp [hn]
      · have k3 : i.kd = wPin ∨ i.kd = wSlide := by
          cases i with
          | body => exact absurd rfl k1
          | driver => exact absurd rfl k2
          | pin => exact .inl rfl
          | slide => exact .inr rfl
        have e1 : i.bN = [] := if_neg k1
        have e2 : i.jN = [i.nm] := if_pos k3
        have e3 : i.dN = [] := if_neg k2
        rw [e2] at hj
        obtain ⟨y, hy, hn⟩ := map_at (by simpa using hj)
        rw [if_neg k2, hy, e1, e2, e3]
        simp [hn]
theorem orders {s : List UInt8} {l : List Tkn} (hs : SplitOut s 0 l) (h : (readL l).x = 0) : ((itTo (kt l) l.length).map (·.1)).foldl (ordStep (readL l).L) ⟨0, 0, 0, []⟩ = ⟨(readL l).L.bodies.length, (readL l).L.joints.length, (readL l).L.drivers.length, (itTo (kt l) l.length).map (·.2)⟩ := by
  obtain ⟨nm, I, e, hn⟩ := read_inv h
  have h1 := it_read e (split_gd hs)
  rw [kt_len'] at h1
  rw [h1, List.map_map, List.map_map]
  have h2 := ord_all hn I [] rfl
  exact h2
end Go.Proofs.YtoiijifnfdgfpaaGreatDoor

/- Walks: the Parse laws: the first words of things. -/
namespace Go.Proofs.YtoiijifnfdgfpaaGreatDoor
open Go Go.RowKit Bn
attribute [local go_sem ↓] Go.wp_at_zero Go.wp_at_succ
theorem kt_at {l : List Tkn} {i : Nat} {t : Tkn} (h : l[i]? = some t) : (kt l)[i]? = some (t.kind, t.text) := by
  unfold kt
  rw [List.getElem?_map, h]; rfl
theorem first_at {l : List Tkn} {i : Nat} {t : Tkn} (h : l[i]? = some t) : firstB (kt l) i = (t.kind == 0 && four t.text && decide (i ≠ 0) && decide (depK ((kt l).take i) = 0) && (match l[i - 1]? with | some q => en q.text | none => false)) := by
  unfold firstB
  rw [kt_at h]
  simp only
  congr 1
  unfold kt
  rw [List.getElem?_map]
  cases l[i - 1]? <;> rfl
theorem dep_step {l : List Tkn} {k : Nat} {t : Tkn} (h : l[k]? = some t) : depK ((kt l).take (k + 1)) = depK ((kt l).take k) + dl t.text := by
  have e : (kt l).take (k + 1) = (kt l).take k ++ [(t.kind, t.text)] := by rw [List.take_add_one, kt_at h]; rfl
  rw [e]
  unfold depK
  simp
theorem dl_abs (t : List UInt8) : -1 ≤ dl t ∧ dl t ≤ 1 := by
  unfold dl
  split
  · omega
  · split <;> omega
theorem dep_abs {l : List Tkn} : ∀ {k : Nat}, k ≤ l.length → -(k : Int) ≤ depK ((kt l).take k) ∧ depK ((kt l).take k) ≤ (k : Int)
  | 0, _ => by simp [depK]
  | k + 1, h => by
    have h1 := dep_abs (l := l) (k := k) (by omega)
    have h2 := dep_step (List.getElem?_eq_getElem (by omega : k < l.length))
    have h3 := dl_abs (l[k]'(by omega)).text
    rw [h2]
    omega
theorem four_cases (t : List UInt8) : (t = wBody ∨ t = wPin ∨ t = wSlide ∨ t = wDriver) ∨ (four t = false ∧ t ≠ wBody ∧ t ≠ wPin ∧ t ≠ wSlide ∧ t ≠ wDriver) := by
  by_cases h1 : t = wBody
  · exact .inl (.inl h1)
  by_cases h2 : t = wPin
  · exact .inl (.inr (.inl h2))
  by_cases h3 : t = wSlide
  · exact .inl (.inr (.inr (.inl h3)))
  by_cases h4 : t = wDriver
  · exact .inl (.inr (.inr (.inr h4)))
  · exact .inr ⟨by unfold four; simp [h1, h2, h3, h4], h1, h2, h3, h4⟩
theorem l20_first (w : World) (A : Option Addr) (n c : Nat) (l : List Tkn) (h : TkS w A n c l) (hn : n ≤ 3000) (i : Nat) (hi : i < n) (v : Bool) (hv : firstB (kt l) i = v) : Calls Tryz.prog 24 #[.slice A n c, .int .i64 (i : Nat)] w (RetV w (.bool v)) := by
 have HH := Lib.hid h
 obtain ⟨g, t, e, hnc, ht, d0, d1, _, _⟩ := h.cells hi
 subst e
 have hv2 := first_at ht
 rw [hv] at hv2
 have htl := toList_v t.text
 have hii : (i : Int) < (n : Int) := by omega
 clear h hv
 by_cases hk : t.kind = 0
 rotate_left
 ·have hk1 : ((t.kind : Int) == 0) = false := beq_eq_false_iff_ne.2 (by omega)
  have hk2 : ((t.kind : Int) = 0) = False := by simp; omega
  have hk3 : ((t.kind : Int) != 0) = true := by unfold bne; rw [hk1]; rfl
  have hvf : v = false := by rw [hv2]; simp [hk]
  subst hvf
  clear hv2 hk ht
  go_enter Tryz.func24, Tryz.ntmps24
  go_wp2_with fail
  go_ret
  exact ⟨rfl, brefl w⟩
 rw [hk] at d0 hv2
 rcases four_cases t.text with h4 | ⟨h4, k1, k2, k3, k4⟩
 rotate_left
 ·have hb0 : (t.text == [98, 111, 100, 121]) = false := beq_eq_false_iff_ne.2 k1
  have hb1 : (t.text == [112, 105, 110]) = false := beq_eq_false_iff_ne.2 k2
  have hb2 : (t.text == [115, 108, 105, 100, 101]) = false := beq_eq_false_iff_ne.2 k3
  have hb3 : (t.text == [100, 114, 105, 118, 101, 114]) = false := beq_eq_false_iff_ne.2 k4
  have hvf : v = false := by rw [hv2, h4]; simp
  subst hvf
  clear hv2 hk ht h4 k1 k2 k3 k4
  go_enter Tryz.func24, Tryz.ntmps24
  go_wp2_with fail
  go_ret
  exact ⟨rfl, brefl w⟩
 by_cases hi0 : i = 0
 ·have hvf : v = false := by rw [hv2]; simp [hi0]
  subst hvf hi0
  clear hv2 hk ht hii
  rcases h4 with h4 | h4 | h4 | h4
  all_goals
   rw [h4] at d1
   clear h4 htl
   go_enter Tryz.func24, Tryz.ntmps24
   go_wp2_with fail
   go_ret
   exact ⟨rfl, brefl w⟩
 have hf4 : four t.text = true := by rcases h4 with h | h | h | h <;> rw [h] <;> decide
 have hv3 : v = (decide (depK ((kt l).take i) = 0) && (match l[i - 1]? with | some q => en q.text | none => false)) := by rw [hv2, hf4]; simp [hi0]
 have e0 : ((i : Int) == 0) = false := beq_eq_false_iff_ne.2 (by omega)
 have e1 : ((i : Int) = 0) = False := by simp; omega
 have HV := Lib.hid hv3
 clear hv2 hv3 hf4 hk htl
 rcases h4 with h4 | h4 | h4 | h4
 all_goals
  rw [h4] at d1
  clear h4
  go_enter Tryz.func24, Tryz.ntmps24
  go_wp2_with fail
  clear d0 d1
  go_loopw [6, 7] (fun dv kv wr => ∃ k : Nat, dv = .int .i64 (depK ((kt l).take k)) ∧ kv = .int .i64 (k : Nat) ∧ k ≤ i ∧ wr = w) (fun _ kv _ => i - (intOf kv).toNat)
  case atStart => exact ⟨0, rfl, rfl, Nat.zero_le _, by first | rfl | trivial⟩
  case round =>
   obtain ⟨k, rfl, rfl, hki, hw⟩ := hrel
   subst hw
   obtain ⟨z, hz⟩ : ∃ z, depK ((kt l).take k) = z := ⟨_, rfl⟩
   have hza := dep_abs (l := l) (k := k) (by rw [HH.out.1]; omega)
   rw [hz] at hza ⊢
   rcases Nat.lt_or_ge k i with hlt | hge
   ·have hk1 : ((k : Int) < (i : Int)) = True := by simp; omega
    have hk2 : (k : Int) < (n : Int) := by omega
    obtain ⟨g', u, e, _, hu, f0, f1, _, _⟩ := HH.out.cells (i := k) (by omega)
    injection e with e
    injection e with e
    subst e
    have hs := dep_step hu
    rw [hz] at hs
    have hul := toList_v u.text
    by_cases ha : u.text = [123]
    ·have hb0 : (u.text == [123]) = true := by rw [ha]; decide
     have hb1 : (u.text == [125]) = false := by rw [ha]; decide
     have hw1 : IntKind.i64.wrap (z + 1) = z + 1 := IntWalk.i64_in _ ⟨by omega, by omega⟩
     have hd : dl u.text = 1 := by rw [ha]; decide
     rw [hd] at hs
     have HS := Lib.hid hs
     clear ha hd hs hu hz f0
     go_wp2_with fail
     go_roundw
     case rel => exact ⟨k + 1, by rw [HS.out], by go_num, by omega, by first | rfl | trivial⟩
     case measure => simp [intOf]; omega
    by_cases hb : u.text = [125]
    ·have hb0 : (u.text == [123]) = false := by rw [hb]; decide
     have hb1 : (u.text == [125]) = true := by rw [hb]; decide
     have hw1 : IntKind.i64.wrap (z - 1) = z - 1 := IntWalk.i64_in _ ⟨by omega, by omega⟩
     have hd : dl u.text = -1 := by rw [hb]; decide
     rw [hd] at hs
     have HS := Lib.hid hs
     clear ha hb hd hs hu hz f0
     go_wp2_with fail
     go_roundw
     case rel => exact ⟨k + 1, by rw [HS.out]; rfl, by go_num, by omega, by first | rfl | trivial⟩
     case measure => simp [intOf]; omega
    ·have hb0 : (u.text == [123]) = false := beq_eq_false_iff_ne.2 ha
     have hb1 : (u.text == [125]) = false := beq_eq_false_iff_ne.2 hb
     have hd : dl u.text = 0 := by unfold dl; rw [if_neg ha, if_neg hb]
     rw [hd, Int.add_zero] at hs
     have HS := Lib.hid hs
     clear ha hb hd hs hu hz f0
     go_wp2_with fail
     go_roundw
     case rel => exact ⟨k + 1, by rw [HS.out], by go_num, by omega, by first | rfl | trivial⟩
     case measure => simp [intOf]; omega
   ·have hk1 : ((k : Int) < (i : Int)) = False := by simp; omega
    obtain rfl : k = i := by omega
    obtain ⟨g', u, e, _, hu, f0, f1, _, _⟩ := HH.out.cells (i := k - 1) (by omega)
    injection e with e
    injection e with e
    subst e
    have hki2 : (((k - 1 : Nat) : Int)) = (k : Int) - 1 := by omega
    have hw1 : IntKind.i64.wrap ((k : Int) - 1) = ((k - 1 : Nat) : Int) := by rw [hki2]; exact IntWalk.i64_in _ ⟨by omega, by omega⟩
    have hvz := HV.out
    rw [hu, hz] at hvz
    simp only at hvz
    obtain ⟨m, hm⟩ : ∃ m, k - 1 = m := ⟨_, rfl⟩
    rw [hm] at hw1 f0 f1
    have hmn : (m : Int) < (n : Int) := by omega
    have hul := toList_v u.text
    clear hu hz f0 HV hki2
    by_cases hz0 : z = 0
    ·subst hz0
     by_cases ha : u.text = [125]
     ·have hb0 : (u.text == [125]) = true := by rw [ha]; decide
      have hvt : v = true := by rw [hvz, ha]; decide
      subst hvt
      clear hvz ha
      go_wp2_with fail
      go_ret
      exact ⟨rfl, brefl _⟩
     ·have hb0 : (u.text == [125]) = false := beq_eq_false_iff_ne.2 ha
      have hbv : (u.text == [59]) = v := by rw [hvz]; unfold en; rw [hb0]; simp
      clear hvz ha
      go_wp2_with fail
      go_ret
      exact ⟨rfl, brefl _⟩
    ·have hz1 : (z == 0) = false := beq_eq_false_iff_ne.2 hz0
     have hz2 : (z = 0) = False := by simp [hz0]
     have hvt : v = false := by rw [hvz]; simp [hz0]
     subst hvt
     clear hvz hz0
     go_wp2_with fail
     go_ret
     exact ⟨rfl, brefl _⟩
end Go.Proofs.YtoiijifnfdgfpaaGreatDoor

/- Rows of texts: linkworkbase.Texts; the text without things. -/
namespace Go.Proofs.YtoiijifnfdgfpaaGreatDoor
open Go Go.RowKit Bn
attribute [local go_sem ↓] Go.wp_at_zero Go.wp_at_succ
def StS (w : World) (A : Option Addr) (n c : Nat) (L : List (List UInt8)) : Prop := L.length = n ∧ ((n = 0 ∧ A = none ∧ c = 0) ∨ ∃ g, A = some ⟨g, 0, none⟩ ∧ n ≤ c ∧ ∀ i x, L[i]? = some x → w.cell? ⟨g, i, none⟩ = some (strV x))
theorem StS.belw {w w' : World} {A : Option Addr} {n c : Nat} {L : List (List UInt8)} (h : StS w A n c L) (hb : Below w.heap.size w w') : StS w' A n c L := by
  refine ⟨h.1, ?_⟩
  rcases h.2 with h | ⟨g, e, hc, h⟩
  · exact .inl h
  · exact .inr ⟨g, e, hc, fun i v hv => (hb.cell (p := ⟨g, i, none⟩) (World.block_lt_of_cell? w _ (h i v hv))).trans (h i v hv)⟩
theorem StS.of_own {w : World} {base : Nat} {e : TypeId} {v : Value} {L : List (List UInt8)} (h : w.ownsRow base e 1 v L.length (L.map strV)) : ∃ A c, v = .slice A L.length c ∧ StS w A L.length c L := by
  rcases h.2 with ⟨rfl, h0⟩ | ⟨g, cap, cur, rfl, hb, hg, hn, hc, hs, ht⟩
  · exact ⟨none, 0, by rw [h0], rfl, .inl ⟨h0, rfl, rfl⟩⟩
  · refine ⟨_, _, rfl, rfl, .inr ⟨g, rfl, hn, fun i x hx => ?_⟩⟩
    rw [cell_of_row w g i cur e (0, 0) hg]
    have hv : (L.map strV)[i]? = some (strV x) := by rw [List.getElem?_map, hx]; rfl
    rw [← ht, List.getElem?_take] at hv
    split at hv
    · simpa using hv
    · cases hv
theorem StS.at_ {w : World} {A : Option Addr} {n c : Nat} {L : List (List UInt8)} (h : StS w A n c L) {i : Nat} (hi : i < n) : ∃ g x, A = some ⟨g, 0, none⟩ ∧ n ≤ c ∧ L[i]? = some x ∧ w.cell? ⟨g, i, none⟩ = some (strV x) := by
  rcases h.2 with ⟨h0, _⟩ | ⟨g, e, hc, h2⟩
  · omega
  · have hl : i < L.length := by rw [h.1]; exact hi
    exact ⟨g, L[i], e, hc, List.getElem?_eq_getElem hl, h2 i _ (List.getElem?_eq_getElem hl)⟩
theorem b_texts (w : World) (A : Option Addr) (n c : Nat) (A' : Option Addr) (c' : Nat) (L : List (List UInt8)) (h : StS w A n c L) (h' : StS w A' n c' L) (hn : n ≤ 1000000) : Calls Tryz.prog 25 #[.slice A n c, .slice A' n c'] w (RetV w (.bool true)) := by
 have HH := Lib.hid (And.intro h h')
 have e0 : ((n : Int) == (n : Int)) = true := by simp
 clear h h'
 go_enter Tryz.func25, Tryz.ntmps25
 go_wp2_with fail
 go_loopw [5] (fun iv wr => ∃ i : Nat, iv = .int .i64 (i : Nat) ∧ i ≤ n ∧ Below w.heap.size w wr) (fun iv _ => n - (intOf iv).toNat)
 case atStart => exact ⟨0, rfl, Nat.zero_le _, brefl w⟩
 case round =>
  obtain ⟨i, rfl, hi, hb⟩ := hrel
  rcases Nat.lt_or_ge i n with hlt | hge
  ·have hi1 : ((i : Int) < (n : Int)) = True := by simp; omega
   have hi2 : (i : Int) < (n : Int) := by omega
   obtain ⟨g, x, e, hc, hx, d0⟩ := (HH.out.1.belw hb).at_ hlt
   subst e
   obtain ⟨g', x', e, hc', hx', f0⟩ := (HH.out.2.belw hb).at_ hlt
   subst e
   obtain rfl : x = x' := by rw [hx] at hx'; injection hx'
   have ht := toList_v x
   have hxx : (x == x) = true := by simp
   clear hx hx'
   go_wp2_with fail
   go_region
   all_goals
    go_wp2_with fail
    go_roundw
    case rel => exact ⟨i + 1, by go_num, by omega, by first | exact hb | exact hb.drew⟩
    case measure => simp [intOf]; omega
  ·have hi1 : ((i : Int) < (n : Int)) = False := by simp; omega
   go_wp2_with fail
   go_ret
   exact ⟨rfl, hb⟩
def tM : List UInt8 := [108, 105, 110, 107, 97, 103, 101, 32, 109, 59]
theorem read_empty : ReadOut tM 10 L0 := by
  have h : Bn.shape (tokens tM) = some [(0, wLinkage), (0, [109]), (2, [59])] := by decide +kernel
  cases ht : tokens tM with
  | err n => rw [ht] at h; cases h
  | ok l =>
    rw [ht] at h
    injection h with h
    have h0 : AtK (⟨l, L0, 0⟩ : PS) [(0, wLinkage), (0, [109]), (2, [59])] L0 := ⟨rfl, h, rfl⟩
    obtain ⟨e1, h1⟩ := h0.expect.word
    have h2 : AtK ({ (((⟨l, L0, 0⟩ : PS).expect 0 wLinkage).word.2) with L := { (((⟨l, L0, 0⟩ : PS).expect 0 wLinkage).word.2).L with name := (((⟨l, L0, 0⟩ : PS).expect 0 wLinkage).word.1) } } : PS) [(2, [59])] ⟨[109], [], [], []⟩ := ⟨h1.x, h1.k, by
      show ({ (((⟨l, L0, 0⟩ : PS).expect 0 wLinkage).word.2).L with name := (((⟨l, L0, 0⟩ : PS).expect 0 wLinkage).word.1) } : LinkL) = _
      rw [h1.l, e1]; rfl⟩
    have h3 := FinL.nil h2.expect (l.length + 1) (by
      have a1 := congrArg List.length h2.expect.k
      rw [kt_len] at a1
      rw [a1]
      exact Nat.succ_pos _)
    have hr : (readL l).x = 0 ∧ (readL l).L = ⟨[109], [], [], []⟩ := h3
    exact .check l (.ok (by decide) ht rfl) hr.1 (by rw [hr.2]; decide) (by decide) rfl
theorem kts_last (i : ItmR) : ∃ K x, i.kts = K ++ [(2, x)] := by
  cases i with
  | body nm ms => exact ⟨(0, wBody) :: (0, nm) :: (2, [123]) :: ms.flatMap mkR, [125], rfl⟩
  | pin nm a p b o => exact ⟨[(0, wPin), (0, nm), (0, a), (2, [46]), (0, p), (0, b), (2, [46]), (0, o)], [59], rfl⟩
  | slide nm a p b o d t => exact ⟨[(0, wSlide), (0, nm), (0, a), (2, [46]), (0, p), (0, b), (2, [46]), (0, o), (0, d), (2, [46]), (0, t)], [59], rfl⟩
  | driver nm b => exact ⟨[(0, wDriver), (0, nm), (0, b)], [59], rfl⟩
theorem read_last : ∀ (I : List ItmR) (H : List (Nat × List UInt8)), (∃ K x, H = K ++ [(2, x)]) → ∃ K x, H ++ I.flatMap ItmR.kts = K ++ [(2, x)]
  | [], H, h => by simpa using h
  | i :: I, H, _ => by
    obtain ⟨K, x, e⟩ := kts_last i
    have := read_last I (H ++ i.kts) ⟨H ++ K, x, by rw [e, List.append_assoc]⟩
    rw [List.append_assoc] at this
    rwa [List.flatMap_cons]
theorem last_first {l : List Tkn} (h : (readL l).x = 0) : 0 < l.length ∧ firstB (kt l) (l.length - 1) = false := by
  obtain ⟨nm, I, e, _⟩ := read_inv h
  obtain ⟨K, x, e2⟩ := read_last I [(0, wLinkage), (0, nm), (2, [59])] ⟨[(0, wLinkage), (0, nm)], [59], rfl⟩
  have e3 : kt l = K ++ [(2, x)] := e.trans e2
  have hl : l.length = K.length + 1 := by
    have := congrArg List.length e3
    rw [kt_len] at this
    simpa using this
  refine ⟨by omega, ?_⟩
  unfold firstB
  rw [e3, hl, Nat.add_sub_cancel, List.getElem?_append_right (Nat.le_refl _)]
  simp
theorem it_last {l : List Tkn} (h : (readL l).x = 0) : itTo (kt l) l.length = itTo (kt l) (l.length - 1) := by
  obtain ⟨h1, h2⟩ := last_first h
  obtain ⟨m, hm⟩ : ∃ m, l.length = m + 1 := ⟨l.length - 1, by omega⟩
  rw [hm, Nat.add_sub_cancel] at h2
  rw [hm, Nat.add_sub_cancel]
  show itTo (kt l) m ++ (if firstB (kt l) m then _ else []) = _
  rw [h2]
  simp
end Go.Proofs.YtoiijifnfdgfpaaGreatDoor

/- Walks: the Parse laws: ParseOrders. -/
namespace Go.Proofs.YtoiijifnfdgfpaaGreatDoor
open Go Go.RowKit Bn
attribute [local go_sem ↓] Go.wp_at_zero Go.wp_at_succ
theorem it_step {l : List Tkn} {i : Nat} {t u : Tkn} (h : l[i]? = some t) (h' : l[i + 1]? = some u) (hf : firstB (kt l) i = true) : itTo (kt l) (i + 1) = itTo (kt l) i ++ [(t.text, u.text)] := by
  show itTo (kt l) i ++ (if firstB (kt l) i then [((kt l)[i]?.getD (0, []), (kt l)[i + 1]?.getD (0, []))].map (fun p => (p.1.2, p.2.2)) else []) = _
  rw [hf, kt_at h, kt_at h']
  rfl
theorem it_no {l : List Tkn} {i : Nat} (hf : firstB (kt l) i = false) : itTo (kt l) (i + 1) = itTo (kt l) i := by
  show itTo (kt l) i ++ (if firstB (kt l) i then _ else []) = _
  rw [hf]
  simp
theorem first_four {l : List Tkn} {i : Nat} {t : Tkn} (h : l[i]? = some t) (hf : firstB (kt l) i = true) : t.text = wBody ∨ t.text = wPin ∨ t.text = wSlide ∨ t.text = wDriver := by
  rw [first_at h] at hf
  simp only [Bool.and_eq_true] at hf
  rcases four_cases t.text with h4 | ⟨h4, _⟩
  · exact h4
  · have := hf.1.1.1.2
    rw [h4] at this; cases this
theorem l_ParseOrders (w : World) (s : List UInt8) (_ : s.length < 9223372036854775808) (_ : Tab w) (hmx : Mx w) : Calls Tryz.prog 7 #[strV s] w (RetV w (.bool true)) := by
 by_cases h1 : 3000 < s.length
 ·have f1 : ((3000 : Int) < (s.length : Int)) = True := eq_true (by omega)
  go_enter Tryz.func7, Tryz.ntmps7
  go_wp2_with fail
  (with_reducible refine (l20_awake w hmx).mono ?_); rintro e w1 ⟨rfl, hb1⟩
  have hmx1 := hmx.belw hb1
  go_wp2_with fail
  (with_reducible refine (l20_awake w1 hmx1).mono ?_); rintro e w2 ⟨rfl, hb2⟩
  have bw2 := hb1.trans (hb2.mono hb1.size)
  go_wp2_with fail
  go_ret
  exact retB rfl bw2
 have f1 : ((3000 : Int) < (s.length : Int)) = False := eq_false (by omega)
 obtain ⟨x, L, hR⟩ := readOut s
 have HR := Lib.hid hR
 have HM := Lib.hid hmx
 by_cases hx : x = 0
 rotate_left
 ·have hx0 := hx
  clear hR hmx
  go_enter Tryz.func7, Tryz.ntmps7
  go_wp2_with fail
  (with_reducible refine (l20_awake w HM.out).mono ?_); rintro e w1 ⟨rfl, hb1⟩
  go_wp2_with fail
  (with_reducible refine (ps_linkage w1 s x L (HM.out.belw hb1) HR.out).mono ?_); rintro e w2 ⟨A, n, c, B, p, d, C, q, f, rfl, hL, hb2⟩
  have hb := hb1.trans (hb2.mono hb1.size)
  rw [eVp hx]
  clear hx hL hb1 hb2 hx0
  go_wp2_with fail
  go_ret
  exact retB rfl (hb.alloc hb.size _)
 subst hx
 obtain ⟨l, hsp, hr, hLr⟩ : ∃ l, SplitOut s 0 l ∧ (readL l).x = 0 ∧ L = (readL l).L := by
  cases hR with
  | split _ _ hx _ => exact absurd rfl hx
  | read _ _ _ hx _ => exact absurd rfl hx
  | check _ _ _ _ hx _ => exact absurd rfl hx
  | ok l hs hr hc _ hL => exact ⟨l, hs, hr, hL⟩
 have hord := orders hsp hr
 rw [← hLr, it_last hr] at hord
 obtain ⟨hl0, hfl⟩ := last_first hr
 have ht : tokens s = .ok l := by
  cases hsp with
  | big h _ _ => omega
  | ok _ h _ => exact h
  | err n _ h1 hx hl =>
   exfalso
   have := tokens_errN h1
   omega
 have htl := tokens_len ht
 have hln : l.length ≤ 3000 := by omega
 obtain ⟨i0, hi0, hz0, hz1, hz2⟩ := info_parts info_str
 have HI := Lib.hid (And.intro hi0 (And.intro hz0 (And.intro hz1 hz2)))
 have HS := Lib.hid hsp
 have HO := Lib.hid hord
 obtain ⟨_, hsb, hsj, hsd⟩ := HR.out.small
 clear hR hmx hsp hr hLr hord hfl ht htl hi0 hz0 hz1 hz2
 go_enter Tryz.func7, Tryz.ntmps7
 go_wp2_with fail
 (with_reducible refine (l20_awake w HM.out).mono ?_); rintro e w1 ⟨rfl, hb1⟩
 go_wp2_with fail
 (with_reducible refine (ps_linkage w1 s 0 L (HM.out.belw hb1) HR.out).mono ?_); rintro e w2 ⟨A, n, c, B, p, d, C, q, f, rfl, hL, hb2⟩
 rw [errV_0]
 have hb := hb1.trans (hb2.mono hb1.size)
 have hq := (brefl w2).alloc (Nat.le_refl _) (.cells #[strV L.name, .slice A n c, .slice B p d, .slice C q f] 36)
 have z2 := Blk.new w2 36 #[strV L.name, .slice A n c, .slice B p d, .slice C q f]
 have q2 := hb.trans (hq.mono hb.size)
 have HL := Lib.hid (hL.belw hq)
 have hnn : L.bodies.length = n := hL.bodies.1
 have hpp : L.joints.length = p := hL.joints.1
 have hqq : L.drivers.length = q := hL.drivers.1
 clear hL hb1 hb2 hb
 go_wp2_with fail
 clear hq
 generalize (w2.alloc (.cells #[strV L.name, .slice A n c, .slice B p d, .slice C q f] 36)) = w3 at q2 z2 HL ⊢
 obtain ⟨gl, hgl⟩ : ∃ g, w2.heap.size = g := ⟨_, rfl⟩
 rw [hgl] at z2 ⊢
 clear hgl
 (refine (t_split_x w3 s 0 l HS.out).mono ?_); rintro e w4 ⟨A1, n1, c1, rfl, hT, hb4⟩
 rw [errV_0]
 have q4 := q2.trans (hb4.mono q2.size)
 obtain rfl : l.length = n1 := hT.1
 have HT := Lib.hid hT
 have z4 := z2.below hb4 z2.lt
 have HL4 := Lib.hid (HL.out.belw hb4)
 clear hT hb4 q2 z2 HL
 go_wp2_with fail
 go_loopw [5, 7] (fun ov iv wr => ∃ (i : Nat) (done : List (List UInt8)), Hid (done = (itTo (kt l) i).map (·.2)) ∧ iv = .int .i64 (i : Nat) ∧ i + 1 ≤ l.length ∧ done.length ≤ i ∧ wr.ownsRow w4.heap.size 9 1 ov done.length (done.map strV) ∧ Below w4.heap.size w4 wr) (fun _ iv _ => l.length - (intOf iv).toNat)
 case atStart => exact ⟨0, [], Lib.hid rfl, rfl, by omega, Nat.le_refl _, ⟨rfl, .inl ⟨rfl, rfl⟩⟩, brefl w4⟩
 case round =>
  obtain ⟨i, done, hdone, rfl, hi, hdl, hown, hb⟩ := hrel
  have HOW := Lib.hid hown
  clear hown
  obtain ⟨k1, hk1⟩ : ∃ k, i + 1 = k := ⟨_, rfl⟩
  have hw1 : IntKind.i64.wrap ((i : Int) + 1) = (k1 : Int) := by rw [show (k1 : Int) = (i : Int) + 1 by omega]; exact IntWalk.i64_in _ ⟨by omega, by omega⟩
  rcases Nat.lt_or_ge k1 l.length with hlt | hge
  ·have hi1 : ((k1 : Int) < (l.length : Int)) = True := by simp; omega
   have hi2 : ((k1 : Int) < (l.length : Int)) := by omega
   obtain ⟨v, hv⟩ : ∃ v, firstB (kt l) i = v := ⟨_, rfl⟩
   have HV := Lib.hid hv
   clear hv
   go_wp2_with fail
   (refine (l20_first wr A1 l.length c1 l (HT.out.belw hb) hln i (by omega) v HV.out).mono ?_); rintro e w5 ⟨rfl, hb5⟩
   have hb45 := hb.trans (hb5.mono hb.size)
   have HO5 := Lib.hid (own_below HOW.out hb5)
   clear hb5 HOW
   cases v
   ·have hn := it_no HV.out
    have HD := Lib.hid (show done = (itTo (kt l) (i + 1)).map (·.2) by rw [hn]; exact hdone.out)
    clear hn
    go_wp2_with fail
    go_roundw
    case rel => exact ⟨i + 1, done, HD, by rw [hk1], by omega, by omega, HO5.out, hb45⟩
    case measure => simp [intOf]; omega
   ·obtain ⟨g, t, e, hc, ht, _, _, _, _⟩ := (HT.out.belw hb45).cells (i := i) (by omega)
    subst e
    obtain ⟨g', u, e, _, hu, d0, d1, _, _⟩ := (HT.out.belw hb45).cells (i := k1) hlt
    injection e with e
    injection e with e
    subst e
    have hn := it_step ht (by rw [hk1]; exact hu) HV.out
    have HD := Lib.hid (show done ++ [u.text] = (itTo (kt l) (i + 1)).map (·.2) by rw [hn, hdone.out, List.map_append]; rfl)
    have hgl5 : g < w5.heap.size := World.block_lt_of_cell? w5 _ d0
    have hne5 : ¬ g = w5.heap.size := by omega
    clear ht hu hn d0
    go_wp2_with (at_builtin; refine wpList_append_lies _ rfl _ _ _ rfl w4.heap.size 9 i0 (.string ⟨#[]⟩) 1 16 Tryz.underlying49 HI.out.1 HI.out.2.1 HI.out.2.2.1 HI.out.2.2.2 rfl (by omega) _ done.length (done.map strV) rfl (HO5.out.alloc _) ⟨w5.heap.size, 0, none⟩ 1 1 [_] rfl rfl (World.news_of_block (heap_alloc_new w5 _)) (by simp [Value.oneCell']) (by omega) (by unfold maxLen; omega) (by omega) (by have := hb45.size; simp; omega) (w5.heap.size + 1) (by simp) ?_; intro gx cap w9 hown1 hgrow hat hlt1)
    go_roundw
    case rel =>
     refine ⟨i + 1, done ++ [u.text], HD, by rw [hk1], by omega, by rw [List.length_append, List.length_singleton]; omega, ?_, (hb45.alloc hb45.size _).grown hgrow (by have := hb45.size; simp; omega) (own_base HO5.out)⟩
     rw [List.map_append, List.length_append, List.length_singleton]
     exact hown1
    case measure => simp [intOf]; omega
  have hi1 : ((k1 : Int) < (l.length : Int)) = False := by simp; omega
  obtain rfl : i = l.length - 1 := by omega
  obtain ⟨A2, c2, hov, hSt⟩ := StS.of_own HOW.out
  subst hov
  have q6 := q4.trans (hb.mono q4.size)
  have z6 := z4.below hb z4.lt
  have HL6 := Lib.hid (HL4.out.belw hb)
  have HT6 := Lib.hid (HT.out.belw hb)
  have HSt := Lib.hid hSt
  clear hSt HOW hb q4 z4 HL4 HT hw1
  rename World => w6
  go_wp2_with fail
  clear hi1
  go_loopw [8, 9, 10, 11, 12] (fun ov bv jv dv iv wr => ∃ (i2 sb sj sd : Nat) (sw : List (List UInt8)), Hid (⟨sb, sj, sd, sw⟩ = ((itTo (kt l) i2).map (·.1)).foldl (ordStep L) ⟨0, 0, 0, []⟩) ∧ bv = .int .i64 (sb : Nat) ∧ jv = .int .i64 (sj : Nat) ∧ dv = .int .i64 (sd : Nat) ∧ iv = .int .i64 (i2 : Nat) ∧ i2 + 1 ≤ l.length ∧ sb ≤ i2 ∧ sj ≤ i2 ∧ sd ≤ i2 ∧ sw.length ≤ i2 ∧ wr.ownsRow w6.heap.size 9 1 ov sw.length (sw.map strV) ∧ Below w6.heap.size w6 wr) (fun _ _ _ _ iv _ => l.length - (intOf iv).toNat)
  case atStart => exact ⟨0, 0, 0, 0, [], Lib.hid rfl, rfl, rfl, rfl, rfl, by omega, Nat.le_refl _, Nat.le_refl _, Nat.le_refl _, Nat.le_refl _, ⟨rfl, .inl ⟨rfl, rfl⟩⟩, brefl w6⟩
  case round =>
   obtain ⟨i2, sb, sj, sd, sw, hS, rfl, rfl, rfl, rfl, hi2, hsb2, hsj2, hsd2, hswl, hown, hb⟩ := hrel
   have HOW := Lib.hid hown
   clear hown
   obtain ⟨k1, hk1⟩ : ∃ k, i2 + 1 = k := ⟨_, rfl⟩
   have hw1 : IntKind.i64.wrap ((i2 : Int) + 1) = (k1 : Int) := by rw [show (k1 : Int) = (i2 : Int) + 1 by omega]; exact IntWalk.i64_in _ ⟨by omega, by omega⟩
   rcases Nat.lt_or_ge k1 l.length with hlt | hge
   ·have hi1 : ((k1 : Int) < (l.length : Int)) = True := by simp; omega
    have hi3 : ((i2 : Int) < (l.length : Int)) := by omega
    obtain ⟨v, hv⟩ : ∃ v, firstB (kt l) i2 = v := ⟨_, rfl⟩
    have HV := Lib.hid hv
    clear hv
    go_wp2_with fail
    (refine (l20_first wr A1 l.length c1 l (HT6.out.belw hb) hln i2 (by omega) v HV.out).mono ?_); rintro e w7 ⟨rfl, hb7⟩
    have hb67 := hb.trans (hb7.mono hb.size)
    have HO7 := Lib.hid (own_below HOW.out hb7)
    have z7 := z6.below hb67 z6.lt
    have HL7 := Lib.hid (HL6.out.belw hb67)
    clear hb7 HOW
    cases v
    ·have hn := it_no HV.out
     have HD := Lib.hid (show (⟨sb, sj, sd, sw⟩ : OrdS) = ((itTo (kt l) (i2 + 1)).map (·.1)).foldl (ordStep L) ⟨0, 0, 0, []⟩ by rw [hn]; exact hS.out)
     clear hn
     go_wp2_with fail
     go_roundw
     case rel => exact ⟨i2 + 1, sb, sj, sd, sw, HD, rfl, rfl, rfl, by rw [hk1], by omega, by omega, by omega, by omega, by omega, HO7.out, hb67⟩
     case measure => simp [intOf]; omega
    ·obtain ⟨g, t, e, hc0, ht, _, d1, _, _⟩ := (HT6.out.belw hb67).cells (i := i2) (by omega)
     subst e
     obtain ⟨u, hu⟩ : ∃ u, l[k1]? = some u := ⟨_, List.getElem?_eq_getElem hlt⟩
     have hn := it_step ht (by rw [hk1]; exact hu) HV.out
     have hstep : ((itTo (kt l) (i2 + 1)).map (·.1)).foldl (ordStep L) ⟨0, 0, 0, []⟩ = ordStep L ⟨sb, sj, sd, sw⟩ t.text := by
      rw [hn, List.map_append, List.foldl_append, ← hS.out]; rfl
     have h4 := first_four ht HV.out
     clear ht hu hn hS
     rcases h4 with h4 | h4 | h4 | h4
     ·have hs0 : ordStep L ⟨sb, sj, sd, sw⟩ t.text = ⟨sb + 1, sj, sd, sw ++ (match L.bodies[sb]? with | some x => [x.name] | none => [])⟩ := by
       unfold ordStep
       exact if_pos h4
      rw [h4] at d1
      have hwc : IntKind.i64.wrap ((sb : Int) + 1) = (sb : Int) + 1 := IntWalk.i64_in _ ⟨by omega, by omega⟩
      have ca := z7.cell 1
      clear h4
      rcases Nat.lt_or_ge sb n with hc | hc
      ·have hc1 : ((sb : Int) < (n : Int)) = True := by simp; omega
       have hc2 : ((sb : Int) < (n : Int)) := by omega
       obtain ⟨gb, ob, xb, eb, hgb, hcb, hxb, hXb⟩ := HL7.out.bodies.at_ hc
       subst eb
       obtain ⟨Ab, nb, cb, dn, _, _, _⟩ := hXb
       rw [hxb] at hs0
       have HST := Lib.hid (hstep.trans hs0)
       clear hxb hs0 hstep
       go_wp2_with (at_builtin; refine wpList_append_lies _ rfl _ _ _ rfl w6.heap.size 9 i0 (.string ⟨#[]⟩) 1 16 Tryz.underlying49 HI.out.1 HI.out.2.1 HI.out.2.2.1 HI.out.2.2.2 rfl (by omega) _ sw.length (sw.map strV) rfl (HO7.out.alloc _) ⟨w7.heap.size, 0, none⟩ 1 1 [_] rfl rfl (World.news_of_block (heap_alloc_new w7 _)) (by simp [Value.oneCell']) (by omega) (by unfold maxLen; omega) (by omega) (by have := hb67.size; simp; omega) (w7.heap.size + 1) (by simp) ?_; intro gx cap w9 hown1 hgrow hat hlt1)
       go_roundw
       case rel =>
        refine ⟨i2 + 1, sb + 1, sj, sd, sw ++ [xb.name], Lib.hid (by rw [HST.out]), by go_num, by go_num, by go_num, by rw [hk1], by omega, by omega, by omega, by omega, by rw [List.length_append, List.length_singleton]; omega, ?_, (hb67.alloc hb67.size _).grown hgrow (by have := hb67.size; simp; omega) (own_base HO7.out)⟩
        rw [List.map_append, List.length_append, List.length_singleton]
        exact hown1
       case measure => simp [intOf]; omega
      ·have hc1 : ((sb : Int) < (n : Int)) = False := by simp; omega
       have hxb : L.bodies[sb]? = none := List.getElem?_eq_none (by omega)
       rw [hxb] at hs0
       have HST := Lib.hid (hstep.trans hs0)
       clear hxb hs0 hstep
       go_wp2_with fail
       go_roundw
       case rel => exact ⟨i2 + 1, sb + 1, sj, sd, sw, Lib.hid (by rw [HST.out]; simp), by go_num, by go_num, by go_num, by rw [hk1], by omega, by omega, by omega, by omega, by omega, HO7.out, hb67⟩
       case measure => simp [intOf]; omega

     ·have hs0 : ordStep L ⟨sb, sj, sd, sw⟩ t.text = ⟨sb, sj + 1, sd, sw ++ (match L.joints[sj]? with | some x => [x.name] | none => [])⟩ := by
       unfold ordStep
       exact (if_neg (by rw [h4]; decide)).trans (if_neg (by rw [h4]; decide))
      rw [h4] at d1
      have hwc : IntKind.i64.wrap ((sj : Int) + 1) = (sj : Int) + 1 := IntWalk.i64_in _ ⟨by omega, by omega⟩
      have ca := z7.cell 2
      clear h4
      rcases Nat.lt_or_ge sj p with hc | hc
      ·have hc1 : ((sj : Int) < (p : Int)) = True := by simp; omega
       have hc2 : ((sj : Int) < (p : Int)) := by omega
       obtain ⟨gb, ob, xb, eb, hgb, hcb, hxb, hXb⟩ := HL7.out.joints.at_ hc
       subst eb
       obtain ⟨dn, _⟩ := hXb
       rw [hxb] at hs0
       have HST := Lib.hid (hstep.trans hs0)
       clear hxb hs0 hstep
       go_wp2_with (at_builtin; refine wpList_append_lies _ rfl _ _ _ rfl w6.heap.size 9 i0 (.string ⟨#[]⟩) 1 16 Tryz.underlying49 HI.out.1 HI.out.2.1 HI.out.2.2.1 HI.out.2.2.2 rfl (by omega) _ sw.length (sw.map strV) rfl (HO7.out.alloc _) ⟨w7.heap.size, 0, none⟩ 1 1 [_] rfl rfl (World.news_of_block (heap_alloc_new w7 _)) (by simp [Value.oneCell']) (by omega) (by unfold maxLen; omega) (by omega) (by have := hb67.size; simp; omega) (w7.heap.size + 1) (by simp) ?_; intro gx cap w9 hown1 hgrow hat hlt1)
       go_roundw
       case rel =>
        refine ⟨i2 + 1, sb, sj + 1, sd, sw ++ [xb.name], Lib.hid (by rw [HST.out]), by go_num, by go_num, by go_num, by rw [hk1], by omega, by omega, by omega, by omega, by rw [List.length_append, List.length_singleton]; omega, ?_, (hb67.alloc hb67.size _).grown hgrow (by have := hb67.size; simp; omega) (own_base HO7.out)⟩
        rw [List.map_append, List.length_append, List.length_singleton]
        exact hown1
       case measure => simp [intOf]; omega
      ·have hc1 : ((sj : Int) < (p : Int)) = False := by simp; omega
       have hxb : L.joints[sj]? = none := List.getElem?_eq_none (by omega)
       rw [hxb] at hs0
       have HST := Lib.hid (hstep.trans hs0)
       clear hxb hs0 hstep
       go_wp2_with fail
       go_roundw
       case rel => exact ⟨i2 + 1, sb, sj + 1, sd, sw, Lib.hid (by rw [HST.out]; simp), by go_num, by go_num, by go_num, by rw [hk1], by omega, by omega, by omega, by omega, by omega, HO7.out, hb67⟩
       case measure => simp [intOf]; omega

     ·have hs0 : ordStep L ⟨sb, sj, sd, sw⟩ t.text = ⟨sb, sj + 1, sd, sw ++ (match L.joints[sj]? with | some x => [x.name] | none => [])⟩ := by
       unfold ordStep
       exact (if_neg (by rw [h4]; decide)).trans (if_neg (by rw [h4]; decide))
      rw [h4] at d1
      have hwc : IntKind.i64.wrap ((sj : Int) + 1) = (sj : Int) + 1 := IntWalk.i64_in _ ⟨by omega, by omega⟩
      have ca := z7.cell 2
      clear h4
      rcases Nat.lt_or_ge sj p with hc | hc
      ·have hc1 : ((sj : Int) < (p : Int)) = True := by simp; omega
       have hc2 : ((sj : Int) < (p : Int)) := by omega
       obtain ⟨gb, ob, xb, eb, hgb, hcb, hxb, hXb⟩ := HL7.out.joints.at_ hc
       subst eb
       obtain ⟨dn, _⟩ := hXb
       rw [hxb] at hs0
       have HST := Lib.hid (hstep.trans hs0)
       clear hxb hs0 hstep
       go_wp2_with (at_builtin; refine wpList_append_lies _ rfl _ _ _ rfl w6.heap.size 9 i0 (.string ⟨#[]⟩) 1 16 Tryz.underlying49 HI.out.1 HI.out.2.1 HI.out.2.2.1 HI.out.2.2.2 rfl (by omega) _ sw.length (sw.map strV) rfl (HO7.out.alloc _) ⟨w7.heap.size, 0, none⟩ 1 1 [_] rfl rfl (World.news_of_block (heap_alloc_new w7 _)) (by simp [Value.oneCell']) (by omega) (by unfold maxLen; omega) (by omega) (by have := hb67.size; simp; omega) (w7.heap.size + 1) (by simp) ?_; intro gx cap w9 hown1 hgrow hat hlt1)
       go_roundw
       case rel =>
        refine ⟨i2 + 1, sb, sj + 1, sd, sw ++ [xb.name], Lib.hid (by rw [HST.out]), by go_num, by go_num, by go_num, by rw [hk1], by omega, by omega, by omega, by omega, by rw [List.length_append, List.length_singleton]; omega, ?_, (hb67.alloc hb67.size _).grown hgrow (by have := hb67.size; simp; omega) (own_base HO7.out)⟩
        rw [List.map_append, List.length_append, List.length_singleton]
        exact hown1
       case measure => simp [intOf]; omega
      ·have hc1 : ((sj : Int) < (p : Int)) = False := by simp; omega
       have hxb : L.joints[sj]? = none := List.getElem?_eq_none (by omega)
       rw [hxb] at hs0
       have HST := Lib.hid (hstep.trans hs0)
       clear hxb hs0 hstep
       go_wp2_with fail
       go_roundw
       case rel => exact ⟨i2 + 1, sb, sj + 1, sd, sw, Lib.hid (by rw [HST.out]; simp), by go_num, by go_num, by go_num, by rw [hk1], by omega, by omega, by omega, by omega, by omega, HO7.out, hb67⟩
       case measure => simp [intOf]; omega

     ·have hs0 : ordStep L ⟨sb, sj, sd, sw⟩ t.text = ⟨sb, sj, sd + 1, sw ++ (match L.drivers[sd]? with | some x => [x.name] | none => [])⟩ := by
       unfold ordStep
       exact (if_neg (by rw [h4]; decide)).trans (if_pos h4)
      rw [h4] at d1
      have hwc : IntKind.i64.wrap ((sd : Int) + 1) = (sd : Int) + 1 := IntWalk.i64_in _ ⟨by omega, by omega⟩
      have ca := z7.cell 3
      clear h4
      rcases Nat.lt_or_ge sd q with hc | hc
      ·have hc1 : ((sd : Int) < (q : Int)) = True := by simp; omega
       have hc2 : ((sd : Int) < (q : Int)) := by omega
       obtain ⟨gb, ob, xb, eb, hgb, hcb, hxb, hXb⟩ := HL7.out.drivers.at_ hc
       subst eb
       obtain ⟨dn, _⟩ := hXb
       rw [hxb] at hs0
       have HST := Lib.hid (hstep.trans hs0)
       clear hxb hs0 hstep
       go_wp2_with (at_builtin; refine wpList_append_lies _ rfl _ _ _ rfl w6.heap.size 9 i0 (.string ⟨#[]⟩) 1 16 Tryz.underlying49 HI.out.1 HI.out.2.1 HI.out.2.2.1 HI.out.2.2.2 rfl (by omega) _ sw.length (sw.map strV) rfl (HO7.out.alloc _) ⟨w7.heap.size, 0, none⟩ 1 1 [_] rfl rfl (World.news_of_block (heap_alloc_new w7 _)) (by simp [Value.oneCell']) (by omega) (by unfold maxLen; omega) (by omega) (by have := hb67.size; simp; omega) (w7.heap.size + 1) (by simp) ?_; intro gx cap w9 hown1 hgrow hat hlt1)
       go_roundw
       case rel =>
        refine ⟨i2 + 1, sb, sj, sd + 1, sw ++ [xb.name], Lib.hid (by rw [HST.out]), by go_num, by go_num, by go_num, by rw [hk1], by omega, by omega, by omega, by omega, by rw [List.length_append, List.length_singleton]; omega, ?_, (hb67.alloc hb67.size _).grown hgrow (by have := hb67.size; simp; omega) (own_base HO7.out)⟩
        rw [List.map_append, List.length_append, List.length_singleton]
        exact hown1
       case measure => simp [intOf]; omega
      ·have hc1 : ((sd : Int) < (q : Int)) = False := by simp; omega
       have hxb : L.drivers[sd]? = none := List.getElem?_eq_none (by omega)
       rw [hxb] at hs0
       have HST := Lib.hid (hstep.trans hs0)
       clear hxb hs0 hstep
       go_wp2_with fail
       go_roundw
       case rel => exact ⟨i2 + 1, sb, sj, sd + 1, sw, Lib.hid (by rw [HST.out]; simp), by go_num, by go_num, by go_num, by rw [hk1], by omega, by omega, by omega, by omega, by omega, HO7.out, hb67⟩
       case measure => simp [intOf]; omega

   have hi1 : ((k1 : Int) < (l.length : Int)) = False := by simp; omega
   obtain rfl : i2 = l.length - 1 := by omega
   have hfin := hS.out.trans HO.out
   rw [← hdone.out] at hfin
   injection hfin with e1 e2 e3 e4
   subst e4
   obtain ⟨A3, c3, hov, hSt2⟩ := StS.of_own HOW.out
   subst hov
   rw [hnn] at e1
   rw [hpp] at e2
   rw [hqq] at e3
   subst e1 e2 e3
   have q8 := q6.trans (hb.mono q6.size)
   have HS1 := Lib.hid (HSt.out.belw hb)
   have HS2 := Lib.hid hSt2
   have z8 := z6.below hb z6.lt
   clear hSt2 HOW HSt hb hdone hS
   go_wp2_with fail
   (refine (ps_linkage wr tM 10 L0 (HM.out.belw q8) read_empty).mono ?_); rintro e w9 ⟨A5, n5, c5, B5, p5, d5, C5, q5, f5, rfl, hL9, hb9⟩
   rw [eVp (by decide : (10 : Int) ≠ 0)]
   have q9 := q8.trans (hb9.mono q8.size)
   have z9 := z8.below hb9 z8.lt
   have HS3 := Lib.hid (HS1.out.belw hb9)
   have HS4 := Lib.hid (HS2.out.belw hb9)
   clear hL9 hb9 z8 HS1 HS2
   go_wp2_with fail
   (with_reducible refine (b_texts w9 A2 sw.length c2 A3 c3 sw HS3.out HS4.out (by omega)).mono ?_); rintro e w10 ⟨rfl, hb10⟩
   have q10 := q9.trans (hb10.mono q9.size)
   have z10 := z9.below hb10 z9.lt
   have ca1 := z10.cell 1
   have ca2 := z10.cell 2
   have ca3 := z10.cell 3
   clear hb10 z9 HS3 HS4
   go_wp2_with fail
   (with_reducible refine (b_is w10 10).mono ?_); rintro e w11 ⟨rfl, hb11⟩
   have q11 := q10.trans (hb11.mono q10.size)
   go_wp2_with fail
   go_ret
   exact retB rfl q11
end Go.Proofs.YtoiijifnfdgfpaaGreatDoor

/- ParseOrders: bodies, joints and drivers stand in the order of the text; for every input the law returns true. The listed library variables are tied to the program text. -/
namespace Go.Proofs.YtoiijifnfdgfpaaGreatDoor
open Go Go.RowKit Bn Go.ChangeShapes Go.WideShapes Go.ChangeAt
theorem orders_contract (H : Type) (enc : TypeId × Value → H) (W : World) (base : Nat) (args : Array Value) (ds gs : List (DataW H)) (before : List MemPlace)
    (hval0 : ∀ (j : Nat) t v, Tryz.f7.params[j]? = some t → args[j]? = some v → Value.okWide Tryz.prog W .any base t v)
    (hW : DataW.Whole enc Tryz.prog Tryz.f7.params.toList Rows.parseOrdersSpec.vars false W args.toList ds gs before) (hL : laidMetH Tryz.prog Rows.parseOrdersRow.laid W) (hsh : W.ShapedOpen Tryz.prog) :
    Calls Tryz.prog 7 args W fun e W' => ∃ v, e = .returned v ∧ Rows.parseOrdersSpec.post enc Tryz.prog Tryz.f7 false true false false W args v W' := by
  have hval : ∀ (j : Nat) t v, Tryz.f7.params[j]? = some t → args[j]? = some v → Value.okWide Tryz.prog W .any base t v := hval0
  have htab : Tab W := tab_of_laid hL
  have hmx : Mx W := mx_of_shaped hsh
  have hW' := hW
  obtain ⟨p, q, hA0, hV, rfl, hfz, hnd⟩ := hW
  have hA : DataW.TrodAll enc Tryz.prog W 0 (fun _ => true) true Tryz.f7.params.toList args.toList ds p := hA0
  rw [Tryz.params7] at hA hval
  obtain ⟨v0, d0, rfl, rfl, h0⟩ := trodAll_one hA
  obtain ⟨rfl, rfl⟩ := trodVars_none hV
  obtain ⟨s, rfl, rfl, rfl, hs⟩ := Go.ChangeMaps.open_string Tryz.underlying9 (hval 0 _ v0 rfl rfl) h0
  obtain ⟨t, rfl⟩ : ∃ t : List UInt8, s = ⟨t.toArray⟩ := ⟨s.data.toList, by simp⟩
  have ht : t.length < 9223372036854775808 := by unfold maxLen at hs; have h9 : t.length ≤ _ := hs; omega
  refine (l_ParseOrders W t ht htab hmx).mono fun e W' ⟨he, hb⟩ => ?_
  subst he
  exact ⟨_, rfl, law_post laid_out Tryz.underlying4 hW' rfl rfl (by kernel_rfl) rfl rfl rfl hb⟩
theorem orders_lifted (os : Os) (started : os.Started) (H : Type) (enc : TypeId × Value → H) (F : Stop.Interp) :
    ReturnsInHanded {} Tryz.checked os 7 .any ((OpenSpec.ofChange Rows.parseOrdersSpec).preRow enc Tryz.prog Tryz.f7 Rows.parseOrdersRow.domain false Rows.parseOrdersRow.laid) (((OpenSpec.ofChange Rows.parseOrdersSpec).at F).post enc Tryz.prog Tryz.f7 false true false false) := by
  have hx : DataW.whole enc Tryz.prog ((laidWorld os).forCall (fun _ _ => 0) ⟨#[], #[.string ⟨#[]⟩], []⟩).memory Tryz.f7.params.toList Rows.parseOrdersSpec.vars false (#[.string ⟨#[]⟩] : Array Value).toList 8 = some ([.lit (.string [])], [], []) := by kernel_rfl
  have hl : laidMet Tryz.prog Rows.parseOrdersRow.laid ((laidWorld os).forCall (fun _ _ => 0) ⟨#[], #[.string ⟨#[]⟩], []⟩).memory := laidMet_of_run' 8 (by kernel_rfl) (by kernel_rfl)
  refine returnsInHanded_of_row (C := Tryz.checked) (s := OpenSpec.ofChange Rows.parseOrdersSpec) own_knob started (by kernel_rfl) Tryz.func7
    (witness_row_at (enc := enc) (C := Tryz.checked) false (laidWorld os) #[.string ⟨#[]⟩] rfl (by kernel_rfl) (by kernel_rfl) (by kernel_rfl)
      (OpenSpec.preRow_of_cond 8 hx (by kernel_rfl) (fun k hk => by cases hk) (by kernel_rfl) hl)) ?_
  intro W base args ds gs before hval hW _ _ _ hL hsh _
  exact orders_contract H enc W base args ds gs before hval hW hL hsh
theorem orders_j2 : (Rows.parseOrdersRow.inPlace == Tryz.pinned.checked.prog.inPlace 7) = true := by kernel_rfl
theorem orders_j3 : (Rows.parseOrdersRow.unfollowed == Tryz.pinned.checked.prog.unfollowed 7) = true := by kernel_rfl
theorem orders_j4 : (Rows.parseOrdersRow.recurses == Tryz.pinned.checked.prog.recurses 7) = true := by kernel_rfl
theorem orders_j5 : (Rows.parseOrdersRow.named == Tryz.pinned.checked.prog.varsNamed 7) = true := by kernel_rfl
theorem orders_joined : joinedFacts Tryz.pinned.checked.prog 7 Tryz.f7 (OpenSpec.ofChange Rows.parseOrdersSpec).bare Rows.parseOrdersRow = true := joined_parts (by kernel_rfl) orders_j2 orders_j3 orders_j4 orders_j5 (by kernel_rfl)
theorem orders_inst : Tryz.f7.isInstance Tryz.pinned.checked.prog Rows.parseOrdersRow.origin Rows.parseOrdersRow.targs := of_decide_eq_true (by kernel_rfl)
theorem orders_said : Rows.ParseOrdersSaid :=
  OpenClaim.holds_of_cond 7 Tryz.f7 rfl rfl rfl rfl rfl rfl rfl ⟨rfl, rfl, rfl, rfl, rfl⟩ rfl rfl rfl rfl rfl (by kernel_rfl) Tryz.func7 orders_joined
    orders_inst (by unfold Func.isWrapper; first | (rw [if_pos (by decide +kernel)]; kernel_rfl) | (rw [if_neg (by decide +kernel)]; exact ⟨rfl, rfl⟩))
    (fun os started H enc _ F => by rw [OpenClaim.pre_eq_preRow]; exact orders_lifted os started H enc F)
theorem orders_plain (f : FuncId) (fn : Func) (hf : Tryz.pinned.checked.prog.funcNamed "linkwork/linkworklaw20.ParseOrders" = some f) (hfn : Tryz.pinned.checked.prog.funcs[f]? = some fn) :
    true = Tryz.pinned.checked.prog.looks [] ∧ ∀ (j : Nat) t, fn.params[j]? = some t → Tryz.pinned.checked.prog.wantsStandIn t = false := by
  obtain rfl : f = 7 := Option.some.inj ((show Tryz.prog.funcNamed "linkwork/linkworklaw20.ParseOrders" = some 7 by kernel_rfl).symm.trans hf) |>.symm
  obtain rfl : fn = Tryz.f7 := (Option.some.inj (Tryz.func7.symm.trans hfn)).symm
  refine ⟨by kernel_rfl, fun j t ht => ?_⟩
  rw [Tryz.params7] at ht
  have hm : t ∈ [9] := by
    have := Array.mem_of_getElem? ht
    simp at this ⊢
    first
      | exact this
      | exact .inl this
  have hall : ([9].all fun u => !Tryz.prog.wantsStandIn u) = true := by kernel_rfl
  exact (show Tryz.prog.wantsStandIn t = false by simpa using List.all_eq_true.1 hall t hm)
theorem orders_holds : Rows.ParseOrdersCardSaid :=
  Claim7.holds_tied_plain_at .later [] _ _ _ _ orders_said (fun _ h => by cases h) (by kernel_rfl) (fun _ h => by cases h) parseOrders_row_tie rfl ⟨rfl, rfl⟩ (by kernel_rfl) rfl orders_plain (by kernel_rfl)
end Go.Proofs.YtoiijifnfdgfpaaGreatDoor
