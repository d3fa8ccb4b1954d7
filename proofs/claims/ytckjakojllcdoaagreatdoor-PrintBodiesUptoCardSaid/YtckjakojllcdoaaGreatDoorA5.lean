/- Part A5: lemmas and walks that the claim rests on. No claim is made here. -/
import Derived.BigQuiet
import Derived.Test.YtckjakojllcdoaaGreatDoorCards
import Derived.Test.YtckjakojllcdoaaGreatDoorTie
import Derived.ProofKit
import Derived.WalkKit
import Derived.OpenShut
import Derived.Deep.DeepHandedRow
import Derived.Lib.LaidTab
import Derived.Shelf.Vars
import Derived.Deep.Slices
import Derived.SizedLaws
import Derived.Test.YtckjakojllcdoaaGreatDoorA4
set_option linter.unusedVariables false
set_option maxHeartbeats 8000000
set_option maxRecDepth 100000
/- Walks: the fixed linkage of the Print laws. -/
namespace Go.Proofs.YtckjakojllcdoaaGreatDoor
open Go Go.RowKit Bn
attribute [local go_sem ↓] Go.wp_at_zero Go.wp_at_succ
def mkO : MarkL := ⟨[79], rd 0, rd 0⟩
def mkC : MarkL := ⟨[67], rd 4, rd 0⟩
def mkA : MarkL := ⟨[65], rd 1, rd (1 / 2)⟩
def bdF : BodyL := ⟨[102, 114, 97, 109, 101], [mkO, mkC]⟩
def bdC : BodyL := ⟨[99, 114, 97, 110, 107], [mkO, mkA]⟩
def exL : LinkL := ⟨[109], [bdF, bdC], [⟨[106], 0, 1, 0, 0, 0, 0⟩], [⟨[100], 1⟩]⟩
theorem exL_nm : NmAll exL := ⟨by decide, by decide, by decide⟩
theorem qv0 (w : World) : QV w false none 0 0 none 0 0 0 40 := QV.zero w 40
def VMk (mk : MarkL) : Value → World → Prop := fun v w => ∃ b A n c D m e b' A' n' c' D' m' e', v = .agg #[strV mk.name, .bool b, .slice A n c, .slice D m e, .bool b', .slice A' n' c', .slice D' m' e'] ∧ QD w b A n c D m e mk.x 40 ∧ QD w b' A' n' c' D' m' e' mk.y 40
theorem gMk (mk : MarkL) : Grw (VMk mk) := fun _ _ _ ⟨b, A, n, c, D, m, e, b', A', n', c', D', m', e', h0, h1, h2⟩ hb => ⟨b, A, n, c, D, m, e, b', A', n', c', D', m', e', h0, h1.belw hb, h2.belw hb⟩
def VSl {α : Type} (P : World → Nat → Nat → α → Prop) (s n : Nat) (l : List α) : Value → World → Prop := fun v w => ∃ g, v = .slice (some ⟨g, 0, none⟩) n n ∧ SlS P s w (some ⟨g, 0, none⟩) n n l
theorem gSl {α : Type} (P : World → Nat → Nat → α → Prop) (s n : Nat) (l : List α) (hP : ∀ {w w' : World} {g o : Nat} {a : α}, P w g o a → Below w.heap.size w w' → P w' g o a) : Grw (VSl P s n l) := fun _ _ _ ⟨g, h0, h⟩ hb => ⟨g, h0, h.belw (fun _ _ _ x => hP x hb) hb⟩
def VBd (b : BodyL) : Value → World → Prop := fun v w => ∃ g, v = .agg #[strV b.name, .slice (some ⟨g, 0, none⟩) 2 2] ∧ SlS (MkAt 40) 7 w (some ⟨g, 0, none⟩) 2 2 b.pts
theorem gBd (b : BodyL) : Grw (VBd b) := fun _ _ _ ⟨g, h0, h⟩ hb => ⟨g, h0, h.mk_ hb⟩
def VLk (L : LinkL) : Value → World → Prop := fun v w => ∃ g g' g'', v = .agg #[strV L.name, .slice (some ⟨g, 0, none⟩) 2 2, .slice (some ⟨g', 0, none⟩) 1 1, .slice (some ⟨g'', 0, none⟩) 1 1] ∧ LkS 40 w (some ⟨g, 0, none⟩) 2 2 (some ⟨g', 0, none⟩) 1 1 (some ⟨g'', 0, none⟩) 1 1 L
theorem gLk (L : LinkL) : Grw (VLk L) := fun _ _ _ ⟨g, g', g'', h0, h⟩ hb => ⟨g, g', g'', h0, h.belw hb⟩
theorem sls2 {α : Type} {P : World → Nat → Nat → α → Prop} {s g : Nat} {w : World} {a b : α} (hg : g < w.heap.size) (h0 : P w g 0 a) (h1 : P w g s b) : SlS P s w (some ⟨g, 0, none⟩) 2 2 [a, b] := by
  refine ⟨rfl, Nat.le_refl _, fun _ => ⟨g, 0, rfl, hg, fun i x hx => ?_⟩⟩
  match i, hx with
  | 0, hx => simp at hx; subst hx; simpa using h0
  | 1, hx => simp at hx; subst hx; simpa using h1
theorem sls1 {α : Type} {P : World → Nat → Nat → α → Prop} {s g : Nat} {w : World} {a : α} (hg : g < w.heap.size) (h0 : P w g 0 a) : SlS P s w (some ⟨g, 0, none⟩) 1 1 [a] := by
  refine ⟨rfl, Nat.le_refl _, fun _ => ⟨g, 0, rfl, hg, fun i x hx => ?_⟩⟩
  match i, hx with
  | 0, hx => simp at hx; subst hx; simpa using h0
theorem QV.rd_ {w : World} {b : Bool} {A D : Option Addr} {n c m e k : Nat} {q : Rat} (h : QV w b A n c D m e q k) : QD w b A n c D m e (rd q) k := h
theorem mkAt_blk {w : World} {g o : Nat} {nm : List UInt8} {x y : RD} {b b' : Bool} {A D A' D' : Option Addr} {n c m e n' c' m' e' : Nat} (h0 : w.cell? ⟨g, o, none⟩ = some (strV nm)) (h1 : w.cell? ⟨g, o + 1, none⟩ = some (.bool b)) (h2 : w.cell? ⟨g, o + 2, none⟩ = some (.slice A n c)) (h3 : w.cell? ⟨g, o + 3, none⟩ = some (.slice D m e))
    (h4 : w.cell? ⟨g, o + 4, none⟩ = some (.bool b')) (h5 : w.cell? ⟨g, o + 5, none⟩ = some (.slice A' n' c')) (h6 : w.cell? ⟨g, o + 6, none⟩ = some (.slice D' m' e')) (k1 : QD w b A n c D m e x 40) (k2 : QD w b' A' n' c' D' m' e' y 40) (hn : NmL nm) : MkAt 40 w g o ⟨nm, x, y⟩ :=
  ⟨h0, ⟨b, A, n, c, D, m, e, h1, h2, h3, k1⟩, ⟨b', A', n', c', D', m', e', h4, h5, h6, k2⟩, hn⟩
theorem slMk {w : World} {nm : List UInt8} {p q : RD} {b b' : Bool} {A D A' D' : Option Addr} {n c m e n' c' m' e' : Nat} {t : TypeId} (h1 : QD w b A n c D m e p 40) (h2 : QD w b' A' n' c' D' m' e' q 40) (hn : decide (nm.length < 1000) = true) :
    VSl (MkAt 40) 7 2 [mkO, ⟨nm, p, q⟩] (.slice (some ⟨w.heap.size, 0, none⟩) 2 2) (w.alloc (.cells #[.string ⟨#[79]⟩, .bool false, .slice none 0 0, .slice none 0 0, .bool false, .slice none 0 0, .slice none 0 0, strV nm, .bool b, .slice A n c, .slice D m e, .bool b', .slice A' n' c', .slice D' m' e'] t)) := by
  have x := Blk.new w t #[.string ⟨#[79]⟩, .bool false, .slice none 0 0, .slice none 0 0, .bool false, .slice none 0 0, .slice none 0 0, strV nm, .bool b, .slice A n c, .slice D m e, .bool b', .slice A' n' c', .slice D' m' e']
  have hb := (brefl w).alloc (Nat.le_refl _) (.cells #[.string ⟨#[79]⟩, .bool false, .slice none 0 0, .slice none 0 0, .bool false, .slice none 0 0, .slice none 0 0, strV nm, .bool b, .slice A n c, .slice D m e, .bool b', .slice A' n' c', .slice D' m' e'] t)
  have hn := of_decide_eq_true hn
  exact ⟨w.heap.size, rfl, sls2 x.lt (mkAt_blk (x.cell 0) (x.cell 1) (x.cell 2) (x.cell 3) (x.cell 4) (x.cell 5) (x.cell 6) (qv0 _).rd_ (qv0 _).rd_ (by unfold NmL; decide)) (mkAt_blk (x.cell 7) (x.cell 8) (x.cell 9) (x.cell 10) (x.cell 11) (x.cell 12) (x.cell 13) (h1.belw hb) (h2.belw hb) (by unfold NmL; omega))⟩
theorem slBd {w : World} {g g' : Nat} {b b' : BodyL} {t : TypeId} (h1 : SlS (MkAt 40) 7 w (some ⟨g, 0, none⟩) 2 2 b.pts) (h2 : SlS (MkAt 40) 7 w (some ⟨g', 0, none⟩) 2 2 b'.pts) (hn : (decide (b.name.length < 1000) && decide (b'.name.length < 1000)) = true) :
    VSl (BdAt 40) 2 2 [b, b'] (.slice (some ⟨w.heap.size, 0, none⟩) 2 2) (w.alloc (.cells #[strV b.name, .slice (some ⟨g, 0, none⟩) 2 2, strV b'.name, .slice (some ⟨g', 0, none⟩) 2 2] t)) := by
  have x := Blk.new w t #[strV b.name, .slice (some ⟨g, 0, none⟩) 2 2, strV b'.name, .slice (some ⟨g', 0, none⟩) 2 2]
  have hb := (brefl w).alloc (Nat.le_refl _) (.cells #[strV b.name, .slice (some ⟨g, 0, none⟩) 2 2, strV b'.name, .slice (some ⟨g', 0, none⟩) 2 2] t)
  rw [Bool.and_eq_true, decide_eq_true_eq, decide_eq_true_eq] at hn
  exact ⟨w.heap.size, rfl, sls2 x.lt ⟨_, _, _, x.cell 0, x.cell 1, h1.mk_ hb, by unfold NmL; omega⟩ ⟨_, _, _, x.cell 2, x.cell 3, h2.mk_ hb, by unfold NmL; omega⟩⟩
theorem slJt {w : World} {j : JointL} {t : TypeId} (hn : decide (j.name.length < 1000) = true) :
    VSl JtAt 7 1 [j] (.slice (some ⟨w.heap.size, 0, none⟩) 1 1) (w.alloc (.cells #[strV j.name, .int .i64 j.kind, .int .i64 j.a, .int .i64 j.point, .int .i64 j.b, .int .i64 j.on, .int .i64 j.to_] t)) := by
  have x := Blk.new w t #[strV j.name, .int .i64 j.kind, .int .i64 j.a, .int .i64 j.point, .int .i64 j.b, .int .i64 j.on, .int .i64 j.to_]
  have hn := of_decide_eq_true hn
  exact ⟨w.heap.size, rfl, sls1 x.lt ⟨x.cell 0, x.cell 1, x.cell 2, x.cell 3, x.cell 4, x.cell 5, x.cell 6, by unfold NmL; omega⟩⟩
theorem slDr {w : World} {d : DriverL} {t : TypeId} (hn : decide (d.name.length < 1000) = true) :
    VSl DrAt 2 1 [d] (.slice (some ⟨w.heap.size, 0, none⟩) 1 1) (w.alloc (.cells #[strV d.name, .int .i64 d.body] t)) := by
  have x := Blk.new w t #[strV d.name, .int .i64 d.body]
  have hn := of_decide_eq_true hn
  exact ⟨w.heap.size, rfl, sls1 x.lt ⟨x.cell 0, x.cell 1, by unfold NmL; omega⟩⟩
theorem l_example (w : World) : Calls Tryz.prog 19 #[] w (fun e w' => ∃ v, e = .returned v ∧ VLk exL v w' ∧ Below w.heap.size w w') := by
  go_enter Tryz.func19, Tryz.ntmps19
  go_wp2_with fail
  have q0 : Below w.heap.size w (w.alloc (.cells #[.string ⟨#[]⟩, .slice none 0 0, .slice none 0 0, .slice none 0 0] 26)) := (brefl w).alloc (Nat.le_refl _) _
  have x0 : Blk (w.alloc (.cells #[.string ⟨#[]⟩, .slice none 0 0, .slice none 0 0, .slice none 0 0] 26)) w.heap.size 26 #[.string ⟨#[]⟩, .slice none 0 0, .slice none 0 0, .slice none 0 0] := blkAt _ _ _ rfl
  generalize (w.alloc (.cells #[.string ⟨#[]⟩, .slice none 0 0, .slice none 0 0, .slice none 0 0] 26)) = w0 at q0 x0 ⊢
  (with_reducible refine (g_make w0 1 2 (by decide) (by decide) (by decide) (by decide) (1 / 2) 1 (by decide) (by decide +kernel) (by unfold Sz; decide +kernel)).mono ?_); rintro e' w1 ⟨b, A, n, c, D, m, e, rfl, hq, hb1⟩
  have q1 := q0.trans (hb1.mono q0.size)
  have x1 := x0.below hb1 x0.lt
  go_wp2_with fail
  have X := Lib.hid (Blk.new w1 41 #[.bool b, .slice A n c, .slice D m e])
  have q2 : Below w1.heap.size w1 (w1.alloc (.cells #[.bool b, .slice A n c, .slice D m e] 41)) := (brefl w1).alloc (Nat.le_refl _) _
  have hQ := Lib.hid (hq.belw q2)
  have x2 := x1.below q2 x1.lt
  have bw2 := q1.trans (q2.mono q1.size)
  generalize (w1.alloc (.cells #[.bool b, .slice A n c, .slice D m e] 41)) = w2 at X q2 hQ x2 bw2 ⊢
  clear x0 q0 x1 q1 hb1 hq
  refine wp_region_fin (n := 17) (fr := fun xf => ⟨List.toArray (.pointer (some ⟨w.heap.size, 0, none⟩) :: .pointer (some ⟨w1.heap.size, 0, none⟩) :: .int .i64 0 :: .tuple #[.agg #[.bool b, .slice A n c, .slice D m e], .int .i64 0] :: .tuple #[.agg #[.bool b, .slice A n c, .slice D m e], .int .i64 0] :: .agg #[.bool b, .slice A n c, .slice D m e] :: .int .i64 0 :: xf 0 :: xf 1 :: xf 2 :: xf 3 :: xf 4 :: xf 5 :: xf 6 :: xf 7 :: xf 8 :: xf 9 :: xf 10 :: xf 11 :: xf 12 :: xf 13 :: xf 14 :: xf 15 :: xf 16 :: []), []⟩) (R := fun ri => List.getD ((PEq (.agg #[.string ⟨#[79]⟩, .bool false, .slice none 0 0, .slice none 0 0, .bool false, .slice none 0 0, .slice none 0 0])) :: (VQ 4 1) :: (VMk mkC) :: (VSl (MkAt 40) 7 2 [mkO, mkC]) :: (VBd bdF) :: (PEq (.agg #[.string ⟨#[79]⟩, .bool false, .slice none 0 0, .slice none 0 0, .bool false, .slice none 0 0, .slice none 0 0])) :: (VQ 1 1) :: (PEq (.agg #[.bool b, .slice A n c, .slice D m e])) :: (VMk mkA) :: (VSl (MkAt 40) 7 2 [mkO, mkA]) :: (VBd bdC) :: (VSl (BdAt 40) 2 2 [bdF, bdC]) :: (PEq (.agg #[.string ⟨#[106]⟩, .int .i64 0, .int .i64 1, .int .i64 0, .int .i64 0, .int .i64 0, .int .i64 0])) :: (VSl JtAt 7 1 exL.joints) :: (PEq (.agg #[.string ⟨#[100]⟩, .int .i64 1])) :: (VSl DrAt 2 1 exL.drivers) :: (VLk exL) :: PAny :: []) ri (fun _ _ => True)) (x0 := fun _ => undef) (by kernel_rfl) rfl
    (each_of ⟨(fun _ _ _ => rfl), (fun _ _ _ => rfl), (fun _ _ _ => rfl), (fun _ _ _ => rfl), (fun _ _ _ => rfl), (fun _ _ _ => rfl), (fun _ _ _ => rfl), (fun _ _ _ => rfl), (fun _ _ _ => rfl), (fun _ _ _ => rfl), (fun _ _ _ => rfl), (fun _ _ _ => rfl), (fun _ _ _ => rfl), (fun _ _ _ => rfl), (fun _ _ _ => rfl), (fun _ _ _ => rfl), (fun _ _ _ => rfl), (fun h => absurd h (by decide)), trivial⟩) (each_of (acyc_from _ 0 (by kernel_rfl))) (AllGrw.get _ ⟨gEq _, gQ _ _, gMk _, gSl _ _ _ _ (fun h hb => h.belw hb), gBd _, gEq _, gQ _ _, gEq _, gMk _, gSl _ _ _ _ (fun h hb => h.belw hb), gBd _, gSl _ _ _ _ (fun h hb => h.belw hb), gEq _, gSl _ _ _ _ (fun h hb => h.belw hb), gEq _, gSl _ _ _ _ (fun h hb => h.belw hb), gLk _, gAny, trivial⟩)
    (fun j hj => reach_of (by kernel_rfl) hj) (each_of ⟨?_, ?_, ?_, ?_, ?_, ?_, ?_, ?_, ?_, ?_, ?_, ?_, ?_, ?_, ?_, ?_, ?_, ?_, trivial⟩) ?_
  · exact fun _ xf wq hb hd K hK => by
      (try dsimp only)
      go_simp
      have hz := hK.out _ _ rfl (brefl _)
      exact hz
  · exact fun _ xf wq hb hd K hK => by
      (try dsimp only)
      go_simp
      go_at_call 38
      (with_reducible refine (g_of _ 4 (by decide) (by decide)).mono ?_); rintro e wr ⟨b3, A3, n3, c3, D3, m3, e3, rfl, h3, hbr⟩
      exact hK.out _ _ ⟨b3, A3, n3, c3, D3, m3, e3, rfl, by simpa using h3⟩ hbr
  · exact fun _ xf wq hb hd K hK => by
      obtain ⟨b3, A3, n3, c3, D3, m3, e3, dq1, h3⟩ : VQ 4 1 (xf 1) wq := hd ⟨1, .data⟩ (by simp) rfl
      (try dsimp only); (try simp only [dq1])
      go_simp
      have hz := hK.out _ _ ⟨b3, A3, n3, c3, D3, m3, e3, _, _, _, _, _, _, _, rfl, (h3.mono (show 1 ≤ 40 by decide)).rd_, (qv0 _).rd_⟩ (brefl _)
      simp only [dq1] at hz
      exact hz
  · exact fun _ xf wq hb hd K hK => by
      have dq0 : xf 0 = .agg #[.string ⟨#[79]⟩, .bool false, .slice none 0 0, .slice none 0 0, .bool false, .slice none 0 0, .slice none 0 0] := hd ⟨0, .data⟩ (by simp) rfl
      obtain ⟨b3, A3, n3, c3, D3, m3, e3, b4, A4, n4, c4, D4, m4, e4, dq2, h3, h4⟩ : VMk mkC (xf 2) wq := hd ⟨2, .data⟩ (by simp) rfl
      (try dsimp only); (try simp only [dq0, dq2])
      go_simp
      have hz := hK.out (.slice (some ⟨wq.heap.size, 0, none⟩) 2 2) (wq.alloc (.cells #[.string ⟨#[79]⟩, .bool false, .slice none 0 0, .slice none 0 0, .bool false, .slice none 0 0, .slice none 0 0, strV mkC.name, .bool b3, .slice A3 n3 c3, .slice D3 m3 e3, .bool b4, .slice A4 n4 c4, .slice D4 m4 e4] 50)) (slMk h3 h4 rfl) ((brefl wq).alloc (Nat.le_refl _) _)
      simp only [dq0, dq2] at hz
      exact hz
  · exact fun _ xf wq hb hd K hK => by
      obtain ⟨g3, dq3, h3⟩ : VSl (MkAt 40) 7 2 [mkO, mkC] (xf 3) wq := hd ⟨3, .data⟩ (by simp) rfl
      (try dsimp only); (try simp only [dq3])
      go_simp
      have hz := hK.out _ _ ⟨g3, rfl, h3⟩ (brefl _)
      simp only [dq3] at hz
      exact hz
  · exact fun _ xf wq hb hd K hK => by
      (try dsimp only)
      go_simp
      have hz := hK.out _ _ rfl (brefl _)
      exact hz
  · exact fun _ xf wq hb hd K hK => by
      (try dsimp only)
      go_simp
      go_at_call 38
      (with_reducible refine (g_of _ 1 (by decide) (by decide)).mono ?_); rintro e wr ⟨b3, A3, n3, c3, D3, m3, e3, rfl, h3, hbr⟩
      exact hK.out _ _ ⟨b3, A3, n3, c3, D3, m3, e3, rfl, by simpa using h3⟩ hbr
  · exact fun _ xf wq hb hd K hK => by
      have hc0 : wq.cell? ⟨w1.heap.size, 0, none⟩ = some (.bool b) := (X.out.below hb X.out.lt).cell 0
      have hc1 : wq.cell? ⟨w1.heap.size, 1, none⟩ = some (.slice A n c) := (X.out.below hb X.out.lt).cell 1
      have hc2 : wq.cell? ⟨w1.heap.size, 2, none⟩ = some (.slice D m e) := (X.out.below hb X.out.lt).cell 2
      (try dsimp only)
      go_simp
      have hz := hK.out (.agg #[.bool b, .slice A n c, .slice D m e]) _ rfl (brefl _)
      exact hz
  · exact fun _ xf wq hb hd K hK => by
      obtain ⟨b3, A3, n3, c3, D3, m3, e3, dq6, h3⟩ : VQ 1 1 (xf 6) wq := hd ⟨6, .data⟩ (by simp) rfl
      have dq7 : xf 7 = .agg #[.bool b, .slice A n c, .slice D m e] := hd ⟨7, .data⟩ (by simp) rfl
      (try dsimp only); (try simp only [dq6, dq7])
      go_simp
      have hz := hK.out _ _ ⟨b3, A3, n3, c3, D3, m3, e3, _, _, _, _, _, _, _, rfl, (h3.mono (show 1 ≤ 40 by decide)).rd_, ((hQ.out.belw hb).mono (show 1 ≤ 40 by decide)).rd_⟩ (brefl _)
      simp only [dq6, dq7] at hz
      exact hz
  · exact fun _ xf wq hb hd K hK => by
      have dq5 : xf 5 = .agg #[.string ⟨#[79]⟩, .bool false, .slice none 0 0, .slice none 0 0, .bool false, .slice none 0 0, .slice none 0 0] := hd ⟨5, .data⟩ (by simp) rfl
      obtain ⟨b3, A3, n3, c3, D3, m3, e3, b4, A4, n4, c4, D4, m4, e4, dq8, h3, h4⟩ : VMk mkA (xf 8) wq := hd ⟨8, .data⟩ (by simp) rfl
      (try dsimp only); (try simp only [dq5, dq8])
      go_simp
      have hz := hK.out (.slice (some ⟨wq.heap.size, 0, none⟩) 2 2) (wq.alloc (.cells #[.string ⟨#[79]⟩, .bool false, .slice none 0 0, .slice none 0 0, .bool false, .slice none 0 0, .slice none 0 0, strV mkA.name, .bool b3, .slice A3 n3 c3, .slice D3 m3 e3, .bool b4, .slice A4 n4 c4, .slice D4 m4 e4] 50)) (slMk h3 h4 rfl) ((brefl wq).alloc (Nat.le_refl _) _)
      simp only [dq5, dq8] at hz
      exact hz
  · exact fun _ xf wq hb hd K hK => by
      obtain ⟨g3, dq9, h3⟩ : VSl (MkAt 40) 7 2 [mkO, mkA] (xf 9) wq := hd ⟨9, .data⟩ (by simp) rfl
      (try dsimp only); (try simp only [dq9])
      go_simp
      have hz := hK.out _ _ ⟨g3, rfl, h3⟩ (brefl _)
      simp only [dq9] at hz
      exact hz
  · exact fun _ xf wq hb hd K hK => by
      obtain ⟨g3, dq4, h3⟩ : VBd bdF (xf 4) wq := hd ⟨4, .data⟩ (by simp) rfl
      obtain ⟨g4, dq10, h4⟩ : VBd bdC (xf 10) wq := hd ⟨10, .data⟩ (by simp) rfl
      (try dsimp only); (try simp only [dq4, dq10])
      go_simp
      have hz := hK.out (.slice (some ⟨wq.heap.size, 0, none⟩) 2 2) (wq.alloc (.cells #[strV bdF.name, .slice (some ⟨g3, 0, none⟩) 2 2, strV bdC.name, .slice (some ⟨g4, 0, none⟩) 2 2] 38)) (slBd h3 h4 rfl) ((brefl wq).alloc (Nat.le_refl _) _)
      simp only [dq4, dq10] at hz
      exact hz
  · exact fun _ xf wq hb hd K hK => by
      (try dsimp only)
      go_simp
      have hz := hK.out _ _ rfl (brefl _)
      exact hz
  · exact fun _ xf wq hb hd K hK => by
      have dq12 : xf 12 = .agg #[.string ⟨#[106]⟩, .int .i64 0, .int .i64 1, .int .i64 0, .int .i64 0, .int .i64 0, .int .i64 0] := hd ⟨12, .data⟩ (by simp) rfl
      (try dsimp only); (try simp only [dq12])
      go_simp
      have hz := hK.out (.slice (some ⟨wq.heap.size, 0, none⟩) 1 1) (wq.alloc (.cells #[.string ⟨#[106]⟩, .int .i64 0, .int .i64 1, .int .i64 0, .int .i64 0, .int .i64 0, .int .i64 0] 59)) (slJt (j := ⟨[106], 0, 1, 0, 0, 0, 0⟩) rfl) ((brefl wq).alloc (Nat.le_refl _) _)
      simp only [dq12] at hz
      exact hz
  · exact fun _ xf wq hb hd K hK => by
      (try dsimp only)
      go_simp
      have hz := hK.out _ _ rfl (brefl _)
      exact hz
  · exact fun _ xf wq hb hd K hK => by
      have dq14 : xf 14 = .agg #[.string ⟨#[100]⟩, .int .i64 1] := hd ⟨14, .data⟩ (by simp) rfl
      (try dsimp only); (try simp only [dq14])
      go_simp
      have hz := hK.out (.slice (some ⟨wq.heap.size, 0, none⟩) 1 1) (wq.alloc (.cells #[.string ⟨#[100]⟩, .int .i64 1] 64)) (slDr (d := ⟨[100], 1⟩) rfl) ((brefl wq).alloc (Nat.le_refl _) _)
      simp only [dq14] at hz
      exact hz
  · exact fun _ xf wq hb hd K hK => by
      obtain ⟨g3, dq11, h3⟩ : VSl (BdAt 40) 2 2 [bdF, bdC] (xf 11) wq := hd ⟨11, .data⟩ (by simp) rfl
      obtain ⟨g4, dq13, h4⟩ : VSl JtAt 7 1 exL.joints (xf 13) wq := hd ⟨13, .data⟩ (by simp) rfl
      obtain ⟨g5, dq15, h5⟩ : VSl DrAt 2 1 exL.drivers (xf 15) wq := hd ⟨15, .data⟩ (by simp) rfl
      (try dsimp only); (try simp only [dq11, dq13, dq15])
      go_simp
      have hz := hK.out _ _ ⟨_, _, _, rfl, (by unfold NmL; decide), h3, h4, h5⟩ (brefl _)
      simp only [dq11, dq13, dq15] at hz
      exact hz
  · exact fun hlt => absurd hlt (by decide)
  intro o ho xf wq hb hr K hK
  injection ho with ho
  subst ho
  obtain ⟨g, g', g'', dq, hL⟩ : VLk exL (xf 16) wq := hr 16 (by decide)
  have x3 := x2.below hb x2.lt
  have hc0 : wq.cell? ⟨w.heap.size, 0, none⟩ = some (.string ⟨#[]⟩) := x3.cell 0
  have hc1 : wq.cell? ⟨w.heap.size, 1, none⟩ = some (.slice none 0 0) := x3.cell 1
  have hc2 : wq.cell? ⟨w.heap.size, 2, none⟩ = some (.slice none 0 0) := x3.cell 2
  have hc3 : wq.cell? ⟨w.heap.size, 3, none⟩ = some (.slice none 0 0) := x3.cell 3
  have hf0 : wq.frozen? ⟨w.heap.size, 0, none⟩ = false := x3.frozen 0
  have hf1 : wq.frozen? ⟨w.heap.size, 1, none⟩ = false := x3.frozen 1
  have hf2 : wq.frozen? ⟨w.heap.size, 2, none⟩ = false := x3.frozen 2
  have hf3 : wq.frozen? ⟨w.heap.size, 3, none⟩ = false := x3.frozen 3
  dsimp only
  simp only [dq]
  go_simp
  refine hK.out _ _ ?_
  have hL4 := LkS.off exL_nm hL (x3.zero rfl) (((((Off.refl w.heap.size wq).set 0 (.string ⟨exL.name.toArray⟩)).set 1 (.slice (some ⟨g, 0, none⟩) 2 2)).set 2 (.slice (some ⟨g', 0, none⟩) 1 1)).set 3 (.slice (some ⟨g'', 0, none⟩) 1 1))
  have b4 := ((((bw2.trans (hb.mono bw2.size)).setCell (p := ⟨w.heap.size, 0, none⟩) (Nat.le_refl _) (.string ⟨exL.name.toArray⟩)).setCell (p := ⟨w.heap.size, 1, none⟩) (Nat.le_refl _) (.slice (some ⟨g, 0, none⟩) 2 2)).setCell (p := ⟨w.heap.size, 2, none⟩) (Nat.le_refl _) (.slice (some ⟨g', 0, none⟩) 1 1)).setCell (p := ⟨w.heap.size, 3, none⟩) (Nat.le_refl _) (.slice (some ⟨g'', 0, none⟩) 1 1)
  have x4 := (((x3.set_ 0 (.string ⟨exL.name.toArray⟩)).set_ 1 (.slice (some ⟨g, 0, none⟩) 2 2)).set_ 2 (.slice (some ⟨g', 0, none⟩) 1 1)).set_ 3 (.slice (some ⟨g'', 0, none⟩) 1 1)
  clear hL x3 hc0 hc1 hc2 hc3 hf0 hf1 hf2 hf3 hr hb x2 bw2 X q2 hQ
  generalize ((((wq.setCell ⟨w.heap.size, 0, none⟩ (.string ⟨exL.name.toArray⟩)).setCell ⟨w.heap.size, 1, none⟩ (.slice (some ⟨g, 0, none⟩) 2 2)).setCell ⟨w.heap.size, 2, none⟩ (.slice (some ⟨g', 0, none⟩) 1 1)).setCell ⟨w.heap.size, 3, none⟩ (.slice (some ⟨g'', 0, none⟩) 1 1)) = w5 at hL4 b4 x4 ⊢
  have y0 : w5.cell? ⟨w.heap.size, 0, none⟩ = some (strV exL.name) := x4.cell 0
  have y1 : w5.cell? ⟨w.heap.size, 1, none⟩ = some (.slice (some ⟨g, 0, none⟩) 2 2) := x4.cell 1
  have y2 : w5.cell? ⟨w.heap.size, 2, none⟩ = some (.slice (some ⟨g', 0, none⟩) 1 1) := x4.cell 2
  have y3 : w5.cell? ⟨w.heap.size, 3, none⟩ = some (.slice (some ⟨g'', 0, none⟩) 1 1) := x4.cell 3
  go_wp2_with fail
  refine bodyPost_ret (v := .agg #[strV exL.name, .slice (some ⟨g, 0, none⟩) 2 2, .slice (some ⟨g', 0, none⟩) 1 1, .slice (some ⟨g'', 0, none⟩) 1 1]) (by simp [results, Tryz.results19, go_sem, *] <;> first | rfl | exact ⟨rfl, rfl⟩) rfl ?_
  exact ⟨_, rfl, ⟨g, g', g'', rfl, hL4⟩, b4⟩
end Go.Proofs.YtckjakojllcdoaaGreatDoor

/- Walks: the Print laws: awake, PrintLinkages, PrintLines. -/
namespace Go.Proofs.YtckjakojllcdoaaGreatDoor
open Go Go.RowKit Bn
attribute [local go_sem ↓] Go.wp_at_zero Go.wp_at_succ
theorem ex_out : outErr exL = 0 := by decide +kernel
def exT : List UInt8 := [108, 105, 110, 107, 97, 103, 101, 32, 109, 59, 10, 98, 111, 100, 121, 32, 102, 114, 97, 109, 101, 32, 123, 32, 79, 32, 48, 32, 48, 59, 32, 67, 32, 52, 32, 48, 59, 32, 125, 10, 98, 111, 100, 121, 32, 99, 114, 97, 110, 107, 32, 123, 32, 79, 32].append [48, 32, 48, 59, 32, 65, 32, 49, 32, 49, 47, 50, 59, 32, 125, 10, 112, 105, 110, 32, 106, 32, 99, 114, 97, 110, 107, 46, 79, 32, 102, 114, 97, 109, 101, 46, 79, 59, 10, 100, 114, 105, 118, 101, 114, 32, 100, 32, 99, 114, 97, 110, 107, 59, 10]
theorem ex_text : outText exL = exT := by decide +kernel
theorem suf_v (w : World) (T : List UInt8) (h : Lib.hasSuffix T [10] = true) (hl : T.length ≤ 65536) : Calls Tryz.prog 17 #[strV T, .string ⟨#[10]⟩] w (fun e w' => e = .returned (.bool true) ∧ w' = w) := by
  refine (Tryz.strings_HasSuffix ⟨T.toArray⟩ ⟨#[10]⟩ w (by rw [size_v]; omega)).mono ?_
  rintro e w' ⟨rfl, rfl⟩
  exact ⟨by rw [show (⟨T.toArray⟩ : ByteArray).data.toList = T by simp, show (⟨#[10]⟩ : ByteArray).data.toList = [10] from rfl, h], rfl⟩
theorem cnt_v (w : World) (T : List UInt8) (z : Int) (h : ((Lib.countByte T 10 : Nat) : Int) = z) : Calls Tryz.prog 18 #[strV T, .string ⟨#[10]⟩] w (fun e w' => e = .returned (.int .i64 z) ∧ w' = w) := by
  refine (Tryz.strings_Count_one ⟨T.toArray⟩ 10 w).mono ?_
  rintro e w' ⟨rfl, rfl⟩
  exact ⟨by rw [show (⟨T.toArray⟩ : ByteArray).data.toList = T by simp, h], rfl⟩
theorem p_lk (w : World) (A : Option Addr) (n c : Nat) (B : Option Addr) (p d : Nat) (C : Option Addr) (q e : Nat) (L : LinkL) (h : LkS 40 w A n c B p d C q e L) (htab : Tab w) : Calls Tryz.prog 9 #[.agg #[strV L.name, .slice A n c, .slice B p d, .slice C q e]] w (fun e' w' => e' = .returned (.tuple #[strV (outText L), errV (outErr L)]) ∧ Below w.heap.size w w') := by
  by_cases hc : lkErr L = 0
  · exact p_lk_ok w A n c B p d C q e L h htab hc
  · have h1 : outErr L = lkErr L := if_pos hc
    have h2 : outText L = [] := if_neg (by rw [h1]; exact hc)
    rw [h1, h2]
    exact p_lk_err w A n c B p d C q e L h hc
theorem r_lk (w : World) (A : Option Addr) (n c : Nat) (B : Option Addr) (p d : Nat) (C : Option Addr) (q e : Nat) (L : LinkL) (h : LkS 40 w A n c B p d C q e L) : Calls Tryz.prog 10 #[.agg #[strV L.name, .slice A n c, .slice B p d, .slice C q e]] w (fun e' w' => e' = .returned (.tuple #[strV (outText L), .int .i64 (outErr L)]) ∧ Below w.heap.size w w') := by
  by_cases hc : lkErr L = 0
  · exact r_lk_ok w A n c B p d C q e L h hc
  · have h1 : outErr L = lkErr L := if_pos hc
    have h2 : outText L = [] := if_neg (by rw [h1]; exact hc)
    rw [h1, h2]
    exact r_lk_err w A n c B p d C q e L h hc
theorem l21_awake (w : World) (htab : Tab w) : Calls Tryz.prog 7 #[] w (RetV w (.bool true)) := by
 have HTab := Lib.hid htab
 clear htab
 go_enter Tryz.func7, Tryz.ntmps7
 go_wp2_with fail
 (with_reducible refine (l_example w).mono ?_); rintro e' w1 ⟨v, rfl, ⟨g, g', g'', rfl, hL⟩, hb1⟩
 go_wp2_with fail
 (with_reducible refine (p_lk w1 _ 2 2 _ 1 1 _ 1 1 exL hL (HTab.out.belw hb1)).mono ?_); rintro e' w2 ⟨rfl, hb2⟩
 rw [ex_text, ex_out, show errV 0 = .nilIface from if_pos rfl]
 have hb := hb1.trans (hb2.mono hb1.size)
 clear hb1 hb2 hL
 unfold exT
 go_wp2_with fail
 go_ret
 exact ⟨rfl, hb⟩
end Go.Proofs.YtckjakojllcdoaaGreatDoor

/- The arguments of a row opened: integers, fractions and turns that came in. -/
namespace Go.Proofs.YtckjakojllcdoaaGreatDoor
open Go Go.RowKit Bn Go.ChangeShapes Go.WideShapes

theorem args_again {H : Type} {enc : TypeId × Value → H} {W : World} {P : Program} (hl : laidOutB P = true) {W' : World} (hb : Below W.heap.size W W') : ∀ {ts : List TypeId} {vs : List Value} {ds : List (DataW H)} {ps : List MemPlace}, (ts.all fun t => P.readableRec t && decide (t < P.types.size)) = true →
    DataW.TrodAll enc P W 0 (fun _ => true) true ts vs ds ps → DataW.TrodAll enc P W' 0 (fun b => decide (b < W.heap.size)) true ts vs ds ps
  | [], [], [], _, _, h => h
  | _ :: _, _ :: _, _ :: _, _, hr, h => by
    have hlt := h.lt
    obtain ⟨p, q, h1, h2, e⟩ := h
    rw [List.all_cons, Bool.and_eq_true, Bool.and_eq_true, decide_eq_true_eq] at hr
    exact ⟨p, q, Below.trod hl hr.1.1 hr.1.2 h1 hb (fun x hx => hlt x (by rw [e]; exact List.mem_append_left _ hx)), args_again hl hb hr.2 h2, e⟩
  | [], [], _ :: _, _, _, h => h.elim
  | [], _ :: _, _, _, _, h => h.elim
  | _ :: _, [], _, _, _, h => h.elim
  | _ :: _, _ :: _, [], _, _, h => h.elim
theorem law_post {H : Type} {enc : TypeId × Value → H} {W : World} {P : Program} {B : TypeId} {f : Func} {s : ChangeSpec} {W' : World} {args : Array Value} {ds : List (DataW H)} {before : List MemPlace} (hl : laidOutB P = true) (hB : P.underlying B = some .bool)
    (hW : DataW.Whole enc P f.params.toList s.vars false W args.toList ds [] before) (hv : s.vars = []) (hr : f.resultTypes = #[B]) (hp : (f.params.toList.all fun t => P.readableRec t && decide (t < P.types.size)) = true)
    (hres : (s.fn H (ds ++ [])).results = [.lit (.bool true)]) (hargs : (s.fn H (ds ++ [])).args = ds) (hvars : (s.fn H (ds ++ [])).vars = []) (hb : Below W.heap.size W W') :
    s.post enc P f false true false false W args (.bool true) W' := by
  have hW' := hW
  obtain ⟨p, q, hA, hV, rfl, _, _⟩ := hW
  have hV' := hV
  rw [hv] at hV'
  obtain ⟨_, rfl⟩ := trodVars_none hV'
  refine ⟨ds, [], _, [], p, [], hW', ?_, ?_, ?_, hb.frame _, fun h => by cases h⟩
  · rw [hr, hres]
    exact trodAll_mk1 (shut_bool hB _)
  · rw [hargs]
    exact args_again hl hb hp hA
  · rw [hv, hvars]
    rfl
theorem joined_parts {P : Program} {f : FuncId} {fn : Func} {s : ChangeSpec} {c : OpenClaim}
    (h1 : (c.wf (OpenSpec.ofChange s) && laidOutB P && mapsRowed P && fn.params.all (P.readableRec ·) && namedTie P c.named s.vars && (c.stops == []) && (P.stops == []) && (c.knobs == []) && (P.stopKnobs == [])) = true)
    (h2 : (c.inPlace == P.inPlace f) = true) (h3 : (c.unfollowed == P.unfollowed f) = true) (h4 : (c.recurses == P.recurses f) = true) (h5 : (c.named == P.varsNamed f) = true)
    (h6 : ((c.maps == (fn.params.toList ++ s.plain.varTypes P).any (P.mapsRec ·)) && (c.ifaces == (fn.params.toList ++ s.plain.varTypes P).any (P.ifacesRec ·)) && (c.mapsOut == P.mapsAmong fn.resultTypes.toList) &&
      (c.loops == (fn.params.toList ++ s.plain.varTypes P).any (P.loopsFrom ·)) && (c.wideKeys == (fn.params.toList ++ s.plain.varTypes P ++ fn.resultTypes.toList).any (P.wideKeysFrom ·)) &&
      s.vars.all (P.varReadable ·) && fn.resultTypes.all (fun t => P.readableRec t && decide (t < P.types.size)) && (c.ifacesOut == fn.resultTypes.toList.any (P.ifacesRec ·)) && (c.loopsOut == fn.resultTypes.toList.any (P.loopsFrom ·)) && (c.plainKeys == P.plainKeys) && c.shortTexts.isNone && P.stopsHeard && P.mayEnter && (c.lifted == P.liftsFinal) && (P.make == some c.make) && (c.kinds == (if c.domain.isEmpty then [] else fn.params.toList.map fun t => match P.underlying t with | some (.int k) => some k | _ => none)) && (c.pinned == c.pinnedBy) &&
      (c.veiled == (fn.params.toList ++ s.plain.varTypes P ++ fn.resultTypes.toList).any (P.veiledRec ·)) && c.veiledFits P fn.params.toList (fn.params.toList ++ s.plain.varTypes P ++ fn.resultTypes.toList)) = true) : joinedFacts P f fn s c = true := by
  unfold joinedFacts
  simp only [Bool.and_eq_true] at h1 h6 ⊢
  obtain ⟨⟨⟨⟨⟨⟨⟨⟨a0, a1⟩, a2⟩, a3⟩, a4⟩, a5⟩, a6⟩, a7⟩, a8⟩ := h1
  obtain ⟨⟨⟨⟨⟨⟨⟨⟨⟨⟨⟨⟨⟨⟨⟨⟨⟨⟨b0, b1⟩, b2⟩, b3⟩, b4⟩, b5⟩, b6⟩, b7⟩, b8⟩, b9⟩, b10⟩, b11⟩, b12⟩, b13⟩, b14⟩, b15⟩, b16⟩, b17⟩, b18⟩ := h6
  exact ⟨⟨⟨⟨⟨⟨⟨⟨⟨⟨⟨⟨⟨⟨⟨⟨⟨⟨⟨⟨⟨⟨⟨⟨⟨⟨⟨⟨⟨⟨⟨a0, a1⟩, a2⟩, a3⟩, a4⟩, a5⟩, a6⟩, a7⟩, a8⟩, h2⟩, h3⟩, h4⟩, h5⟩, b0⟩, b1⟩, b2⟩, b3⟩, b4⟩, b5⟩, b6⟩, b7⟩, b8⟩, b9⟩, b10⟩, b11⟩, b12⟩, b13⟩, b14⟩, b15⟩, b16⟩, b17⟩, b18⟩
section
variable {H : Type} {enc : TypeId × Value → H} {W : World} {base : Nat}
theorem cells_ok {t : TypeId} {fs : Array Field} {ts : List TypeId} {v : Value} (hu : Tryz.prog.underlying t = some (.struct fs)) (hts : Tryz.prog.cellTypes Tryz.prog.depth t = some ts) (hn : Tryz.prog.cellsOf t = ts.length) (h : Value.okWide Tryz.prog W .any base t v) :
    ∃ cs : Array Value, v = .agg cs ∧ cs.size = ts.length ∧ ∀ (i : Nat) (v : Value) (u : TypeId), cs[i]? = some v → ts[i]? = some u → Cell.okWide Tryz.prog W .any base u v := by
  unfold Value.okWide at h
  rw [hu] at h
  obtain ⟨cs, rfl, hsz, ts', hts', _, hc⟩ := h
  rw [hts] at hts'
  injection hts' with e
  subst e
  rw [hn] at hsz
  refine ⟨cs, rfl, hsz, fun i v u hi hu => ?_⟩
  obtain ⟨u', h1, h2⟩ := hc i v hi
  have hlt : i < ts.length := by rw [← hsz]; exact (Array.getElem?_eq_some_iff.1 hi).1
  rw [Nat.mod_eq_of_lt hlt, hu] at h1
  injection h1 with h1
  subst h1
  exact h2
end
theorem g_pow : Tryz.prog.globalNamed "internal/strconv.uint64pow10" = some 1 := by kernel_rfl
theorem ty_pow : (Tryz.prog.globals[1]?).map (·.type) = some 150 := by kernel_rfl
theorem cells_pow : Tryz.prog.cellsOf 150 = 20 := by kernel_rfl
theorem cells_u64 : Tryz.prog.cellsOf 110 = 1 := by kernel_rfl
theorem pow_data {H : Type} : (Rows.laid_internal_strconv_uint64pow10 : DataW H) = Lib.tabData .u64 Lib.pow10Tab := by kernel_rfl
theorem tab_of_laid {rest : List (String × DataW Unit)} {W : World} (h : laidMet Tryz.prog (("math/bits.deBruijn32tab", Rows.laid_math_bits_deBruijn32tab) :: ("math/bits.deBruijn64tab", Rows.laid_math_bits_deBruijn64tab) :: ("internal/strconv.uint64pow10", Rows.laid_internal_strconv_uint64pow10) :: rest) W) : Tab W := by
  obtain ⟨ps, ⟨_, _, _, _, _, _, _, _, _, _, ⟨_, _, _, _, _, _, _, _, _, _, ⟨g, t, cs, f, p, q, hg, ht, hv, hd, _, _⟩, _⟩, _⟩, _, _⟩ := h
  obtain rfl := Option.some.inj (g_pow.symm.trans hg)
  obtain rfl := Option.some.inj (ty_pow.symm.trans ht)
  rw [pow_data] at hd
  unfold Tab Lib.TabIs
  rw [hv, ← Lib.cells_of_tab Tryz.underlying150 Tryz.underlying110 cells_u64 cells_pow hd]
noncomputable def low : Nat := (World.holding Tryz.prog default ⟨#[], #[], []⟩).heap.size
noncomputable def laidWorld (os : Os) : World :=
  let w0 := World.holding Tryz.prog os ⟨#[], #[], []⟩
  { w0 with heap := (((w0.heap.modify 1 fun
      | .cells _ t frozen => .cells (#[.int .u64 1, .int .u64 10, .int .u64 100, .int .u64 1000, .int .u64 10000, .int .u64 100000, .int .u64 1000000, .int .u64 10000000, .int .u64 100000000, .int .u64 1000000000, .int .u64 10000000000, .int .u64 100000000000, .int .u64 1000000000000, .int .u64 10000000000000, .int .u64 100000000000000, .int .u64 1000000000000000, .int .u64 10000000000000000, .int .u64 100000000000000000, .int .u64 1000000000000000000, .int .u64 10000000000000000000]) t frozen
      | o => o).modify 2 fun
      | .cells _ t frozen => .cells (#[.int .u8 0, .int .u8 1, .int .u8 28, .int .u8 2, .int .u8 29, .int .u8 14, .int .u8 24, .int .u8 3, .int .u8 30, .int .u8 22, .int .u8 20, .int .u8 15, .int .u8 25, .int .u8 17, .int .u8 4, .int .u8 8, .int .u8 31, .int .u8 27, .int .u8 13, .int .u8 23, .int .u8 21, .int .u8 19, .int .u8 16, .int .u8 7, .int .u8 26, .int .u8 12, .int .u8 18, .int .u8 6, .int .u8 11, .int .u8 5, .int .u8 10, .int .u8 9]) t frozen
      | o => o).modify 3 fun
      | .cells _ t frozen => .cells (#[.int .u8 0, .int .u8 1, .int .u8 56, .int .u8 2, .int .u8 57, .int .u8 49, .int .u8 28, .int .u8 3, .int .u8 61, .int .u8 58, .int .u8 42, .int .u8 50, .int .u8 38, .int .u8 29, .int .u8 17, .int .u8 4, .int .u8 62, .int .u8 47, .int .u8 59, .int .u8 36, .int .u8 45, .int .u8 43, .int .u8 51, .int .u8 22, .int .u8 53, .int .u8 39, .int .u8 33, .int .u8 30, .int .u8 24, .int .u8 18, .int .u8 12, .int .u8 5, .int .u8 63, .int .u8 55, .int .u8 48, .int .u8 27, .int .u8 60, .int .u8 41, .int .u8 37, .int .u8 16, .int .u8 46, .int .u8 35, .int .u8 44, .int .u8 21, .int .u8 52, .int .u8 32, .int .u8 23, .int .u8 11, .int .u8 54, .int .u8 26, .int .u8 40, .int .u8 15, .int .u8 34, .int .u8 20, .int .u8 31, .int .u8 10, .int .u8 25, .int .u8 14, .int .u8 19, .int .u8 9, .int .u8 13, .int .u8 8, .int .u8 7, .int .u8 6]) t frozen
      | o => o) }
theorem own_knob : ownKnob Tryz.prog.godebug = none := by kernel_rfl
theorem laid_out : laidOutB Tryz.prog = true := by kernel_rfl
end Go.Proofs.YtckjakojllcdoaaGreatDoor

/- Linkages that came in, read as data. -/
namespace Go.Proofs.YtckjakojllcdoaaGreatDoor
open Go Go.RowKit Bn Go.ChangeShapes Go.WideShapes
section
variable {H : Type} {enc : TypeId × Value → H} {W : World}
theorem spot_none {a : Addr} {v : Value} (h : W.cell? a = some v) : ∃ g o, a = ⟨g, o, none⟩ ∧ g < W.heap.size := by
  obtain ⟨g, o, s⟩ := a
  unfold World.cell? at h
  dsimp only at h
  split at h
  · rename_i c _ _ hb
    cases s with
    | none => exact ⟨g, o, rfl, lt_of_block hb⟩
    | some _ => simp at h
  · cases h
def Szd (t : TypeId) (d : DataW H) : Prop := ∀ n ∈ DataW.weights Tryz.prog t d, n ≤ reachBytes
theorem Szd.field {t : TypeId} {fs : Array Field} {xs : List (DataW H × List MemPlace)} (hu : Tryz.prog.underlying t = some (.struct fs)) (h : Szd t (.agg (xs.map (·.1)))) {i : Nat} {f : Field} {y : DataW H × List MemPlace} (hf : fs[i]? = some f) (hy : xs[i]? = some y) : Szd f.type y.1 := by
  intro n hn
  refine h n ?_
  rw [DataW.weights, hu]
  exact DataW.weights_mem_each (j := i) (t := f.type) (d := y.1) (by rw [List.getElem?_map, Array.getElem?_toList, hf]; rfl) (by rw [List.getElem?_map, hy]; rfl) n hn
theorem weights_mem_all {P : Program} {e : TypeId} : ∀ {ds : List (DataW H)} {d : DataW H}, d ∈ ds → ∀ n ∈ DataW.weights P e d, n ∈ DataW.weightsAll P e ds
  | x :: ds, d, hd, n, hn => by
    rw [DataW.weightsAll, List.mem_append]
    rcases List.mem_cons.1 hd with rfl | hd
    · exact .inl hn
    · exact .inr (weights_mem_all hd n hn)
  | [], _, hd, _, _ => by cases hd
theorem Szd.elem {t e : TypeId} {l sp : List (DataW H)} (hu : Tryz.prog.underlying t = some (.slice e)) (h : Szd t (.slice l sp)) {d : DataW H} (hd : d ∈ l) : Szd e d := by
  intro n hn
  refine h n ?_
  rw [DataW.weights, hu]
  exact List.mem_cons_of_mem _ (List.mem_append_left _ (weights_mem_all hd n hn))
theorem Szd.room {t e : TypeId} {l sp : List (DataW H)} (hu : Tryz.prog.underlying t = some (.slice e)) (h : Szd t (.slice l sp)) : (l.length + sp.length) * Tryz.prog.bytesOf e ≤ reachBytes := by
  refine h _ ?_
  rw [DataW.weights, hu]
  exact List.mem_cons_self
theorem Szd.str {t : TypeId} {l : List UInt8} (h : Szd t (.lit (.string l) : DataW H)) : l.length ≤ reachBytes := h _ (by simp [DataW.weights])
theorem szd_of {ts : List TypeId} {ds : List (DataW H)} (h : (DataW.weightsEach Tryz.prog ts ds).all (· ≤ reachBytes) = true) {j : Nat} {t : TypeId} {d : DataW H} (ht : ts[j]? = some t) (hd : ds[j]? = some d) : Szd t d := fun n hn => by simpa using List.all_eq_true.1 h n (DataW.weights_mem_each ht hd n hn)
theorem add0 {g o i : Nat} : (⟨g, o, none⟩ : Addr).add i = ⟨g, o + i, none⟩ := add_plain g o i
theorem words_trod {v : Value} {fuel : Nat} {x : DataW H × List MemPlace} (ht : DataW.trod enc Tryz.prog W 0 (fun _ => true) true fuel 39 [v] = some x) (hz : Szd 39 x.1) :
    ∃ A n c l, v = .slice A n c ∧ Wd W A n c l ∧ n ≤ reachBytes := by
  rcases open_ints Tryz.underlying39 Tryz.underlying104 (by kernel_rfl) ht with ⟨hv, _⟩ | ⟨a, len, cap, zs, hv, _, hl, hcm, hzl, hx, hc, hwf⟩
  · injection hv with hv _
    exact ⟨none, 0, 0, [], hv, Wd.nil_ W, Nat.zero_le _⟩
  · injection hv with hv _
    subst hv
    rw [hx] at hz
    have hrm := hz.room Tryz.underlying39
    have hb4 : Tryz.prog.bytesOf 104 = 4 := by kernel_rfl
    rw [hb4] at hrm
    have hz : zs.length = cap := by simpa using hzl
    have hlr : len ≤ reachBytes := by
      have : (lits (H := H) .u32 (zs.take len)).length = len := by simp [lits]; omega
      omega
    have h0 : ∀ i, i < zs.length → 0 ≤ zs.getD i 0 ∧ zs.getD i 0 ≤ 4294967295 := by
      intro i hi
      have h1 := hwf (zs.getD i 0) (by rw [List.getD_eq_getElem?_getD, List.getElem?_eq_getElem hi]; simp)
      simpa [Lit.wf, IntKind.min, IntKind.max, IntKind.signed, IntKind.bits] using h1
    refine ⟨some a, len, cap, (zs.take len).map Int.toNat, rfl, ⟨?_, ?_, hl, fun hn => ?_⟩, hlr⟩
    · intro y hy
      obtain ⟨z, hz1, rfl⟩ := List.mem_map.1 hy
      obtain ⟨i, hi, he⟩ := List.getElem_of_mem hz1
      have hi2 : i < zs.length := by rw [List.length_take] at hi; omega
      have h1 := h0 i hi2
      rw [List.getD_eq_getElem?_getD, List.getElem?_eq_getElem hi2] at h1
      rw [List.getElem_take] at he
      simp only [Option.getD_some] at h1
      rw [he] at h1
      omega
    · rw [List.length_map, List.length_take]; omega
    · have hc0 := hc 0 (by omega)
      have e0 : a.add 0 = a := by simp [Addr.add]
      rw [e0] at hc0
      obtain ⟨g, o, rfl, _⟩ := spot_none hc0
      have hc1 := hc0
      unfold World.cell? at hc1
      dsimp only at hc1
      split at hc1
      · rename_i cur el fr hb
        have hr : RowW W g cur fr := ⟨el, .inr (noU_of (i := o) (k := .u32) (z := zs.getD 0 0) (by simpa using hc1)), hb⟩
        refine ⟨g, o, cur, fr, rfl, hr, fun i hi => ?_⟩
        have h1 := hc i (by omega)
        have h2 := h0 i (by omega)
        rw [add0, hr.cell] at h1
        rw [h1]
        have e4 : wd ((zs.take len).map Int.toNat) i = (zs.getD i 0).toNat := by
          unfold wd
          rw [List.getD_eq_getElem?_getD, List.getElem?_map, List.getElem?_take, if_pos hi, List.getD_eq_getElem?_getD]
          rcases zs[i]? with _ | z <;> rfl
        rw [e4, Int.toNat_of_nonneg h2.1]
      · cases hc1
theorem cells_bool : Tryz.prog.cellsOf 4 = 1 := by kernel_rfl
theorem cells_int : Tryz.prog.cellsOf 3 = 1 := by kernel_rfl
theorem cells_str : Tryz.prog.cellsOf 9 = 1 := by kernel_rfl
theorem cells_words : Tryz.prog.cellsOf 39 = 1 := by kernel_rfl
theorem cells_rat : Tryz.prog.cellsOf 41 = 3 := by kernel_rfl
theorem some_at {α : Type} {xs : List α} {i : Nat} (h : i < xs.length) : xs[i]? = some xs[i] := List.getElem?_eq_getElem h
theorem rat_trod {v0 v1 v2 : Value} {fuel : Nat} {x : DataW H × List MemPlace} (ht : DataW.trod enc Tryz.prog W 0 (fun _ => true) true fuel 41 [v0, v1, v2] = some x) (hz : Szd 41 x.1) :
    ∃ b A n c D m e r, v0 = .bool b ∧ v1 = .slice A n c ∧ v2 = .slice D m e ∧ QD W b A n c D m e r reachBytes := by
  obtain ⟨xs, n, _, hx, _, hxl, hf⟩ := DataW.trod_struct Tryz.underlying41 ht
  rw [hx] at hz
  have f0 : DataW.trod enc Tryz.prog W 0 (fun _ => true) true n 4 (List.take (Tryz.prog.cellsOf 4) [v0, v1, v2]) = xs[0]? := hf 0 _ rfl
  have f1 : DataW.trod enc Tryz.prog W 0 (fun _ => true) true n 39 (List.take (Tryz.prog.cellsOf 39) [v1, v2]) = xs[1]? := hf 1 _ rfl
  have f2 : DataW.trod enc Tryz.prog W 0 (fun _ => true) true n 39 (List.take (Tryz.prog.cellsOf 39) [v2]) = xs[2]? := hf 2 _ rfl
  rw [cells_bool] at f0
  rw [cells_words] at f1 f2
  have hx0 : xs.length = 3 := hxl
  rw [some_at (show 0 < xs.length by omega)] at f0
  have z0 := hz.field Tryz.underlying41 (i := 0) rfl (some_at (show 0 < xs.length by omega))
  rw [some_at (show 1 < xs.length by omega)] at f1
  have z1 := hz.field Tryz.underlying41 (i := 1) rfl (some_at (show 1 < xs.length by omega))
  rw [some_at (show 2 < xs.length by omega)] at f2
  have z2 := hz.field Tryz.underlying41 (i := 2) rfl (some_at (show 2 < xs.length by omega))
  obtain ⟨b, hb, _⟩ := DataW.trod_bool Tryz.underlying4 f0
  obtain ⟨A, n1, cc, l, rfl, h1, k1⟩ := words_trod f1 z1
  obtain ⟨D, m, e, l', rfl, h2, k2⟩ := words_trod f2 z2
  injection hb with hb _
  exact ⟨b, A, n1, cc, D, m, e, ⟨b, l, l'⟩, hb, rfl, rfl, rfl, h1, h2, k1, k2⟩
theorem str_trod {v : Value} {fuel : Nat} {x : DataW H × List MemPlace} (ht : DataW.trod enc Tryz.prog W 0 (fun _ => true) true fuel 9 [v] = some x) (hz : Szd 9 x.1) : ∃ t : List UInt8, v = strV t ∧ NmL t := by
  obtain ⟨s, hs, hx, _⟩ := DataW.trod_string Tryz.underlying9 ht
  injection hs with hs _
  subst hs
  obtain ⟨t, rfl⟩ : ∃ t : List UInt8, s = ⟨t.toArray⟩ := ⟨s.data.toList, by simp⟩
  refine ⟨t, rfl, ?_⟩
  rw [hx] at hz
  have h9 : t.length ≤ reachBytes := hz.str
  have h8 := reachBytes_lt
  unfold NmL
  omega
theorem sls_open {α : Type} [Inhabited α] (P0 : World → Nat → Nat → α → Prop) {t e : TypeId} (s : Nat) (ht : Tryz.prog.underlying t = some (.slice e)) (hs : Tryz.prog.cellsOf e = s) (hs0 : 0 < s)
    (one : ∀ (fuel : Nat) (cs : List Value) (y : DataW H × List MemPlace) (g o : Nat), cs.length = s → (∀ i, i < s → W.cell? ⟨g, o + i, none⟩ = cs[i]?) → DataW.trod enc Tryz.prog W 0 (fun _ => true) true fuel e cs = some y → Szd e y.1 → ∃ a, P0 W g o a)
    {v : Value} {fuel : Nat} {x : DataW H × List MemPlace} (h : DataW.trod enc Tryz.prog W 0 (fun _ => true) true fuel t [v] = some x) (hz : Szd t x.1) : ∃ A n c l, v = .slice A n c ∧ SlS P0 s W A n c l := by
  rcases Go.Deep.open_slice ht h with ⟨hv, _⟩ | ⟨a, len, cap, m, n, D, Pl, hv, _, hl, hm, hmm, hxe, hx⟩
  · injection hv with hv _
    exact ⟨none, 0, 0, [], hv, ⟨rfl, Nat.le_refl _, fun h => absurd h (by omega)⟩⟩
  · injection hv with hv _
    subst hv
    rw [hxe] at hz
    have hmc : m = cap := by simpa using hmm
    subst hmc
    rw [hs] at hx
    rcases Nat.eq_zero_or_pos len with h0 | h0
    · subst h0
      exact ⟨some a, 0, m, [], rfl, ⟨rfl, Nat.zero_le _, fun h => absurd h (by omega)⟩⟩
    · obtain ⟨cs0, hc0, _⟩ := hx 0 (by omega)
      obtain ⟨_, hl0, hce⟩ := World.cells?_some hc0
      have h00 := hce 0 hs0
      rw [some_at (show 0 < cs0.length by omega)] at h00
      have e0 : (a.add (0 * s)).add 0 = a := by simp [Addr.add]
      rw [e0] at h00
      obtain ⟨g, o, rfl, hg⟩ := spot_none h00
      obtain ⟨f, hf⟩ := Go.Deep.choose_lt (n := len) (p := fun i a => P0 W g (o + i * s) a) (fun i hi => by
        obtain ⟨cs, h1, h2⟩ := hx i (by omega)
        obtain ⟨_, h3, h4⟩ := World.cells?_some h1
        refine one n cs _ g (o + i * s) h3 (fun j hj => ?_) h2 (hz.elem ht (List.mem_map.2 ⟨i, List.mem_range.2 hi, rfl⟩))
        rw [← h4 j hj, add0, add0])
      refine ⟨_, len, m, (List.range len).map f, rfl, ⟨by simp, hl, fun _ => ⟨g, o, rfl, hg, fun i a ha => ?_⟩⟩⟩
      rw [List.getElem?_map] at ha
      rcases Nat.lt_or_ge i len with hi | hi
      · rw [List.getElem?_range hi] at ha
        injection ha with ha
        subst ha
        exact hf i hi
      · rw [List.getElem?_eq_none (by simpa using hi)] at ha
        cases ha
instance : Inhabited MarkL := ⟨⟨[], ⟨false, [], []⟩, ⟨false, [], []⟩⟩⟩
instance : Inhabited BodyL := ⟨⟨[], []⟩⟩
instance : Inhabited JointL := ⟨⟨[], 0, 0, 0, 0, 0, 0⟩⟩
instance : Inhabited DriverL := ⟨⟨[], 0⟩⟩
theorem mark_one (fuel : Nat) (cs : List Value) (y : DataW H × List MemPlace) (g o : Nat) (hl : cs.length = 7) (hc : ∀ i, i < 7 → W.cell? ⟨g, o + i, none⟩ = cs[i]?) (ht : DataW.trod enc Tryz.prog W 0 (fun _ => true) true fuel 50 cs = some y) (hz : Szd 50 y.1) : ∃ a, MkAt reachBytes W g o a := by
  match cs, hl with
  | [v0, v1, v2, v3, v4, v5, v6], _ =>
    obtain ⟨xs, n, _, hx, _, hxl, hf⟩ := DataW.trod_struct Tryz.underlying50 ht
    rw [hx] at hz
    have f0 : DataW.trod enc Tryz.prog W 0 (fun _ => true) true n 9 (List.take (Tryz.prog.cellsOf 9) [v0, v1, v2, v3, v4, v5, v6]) = xs[0]? := hf 0 _ rfl
    have f1 : DataW.trod enc Tryz.prog W 0 (fun _ => true) true n 41 (List.take (Tryz.prog.cellsOf 41) [v1, v2, v3, v4, v5, v6]) = xs[1]? := hf 1 _ rfl
    have f2 : DataW.trod enc Tryz.prog W 0 (fun _ => true) true n 41 (List.take (Tryz.prog.cellsOf 41) [v4, v5, v6]) = xs[2]? := hf 2 _ rfl
    rw [cells_str] at f0
    rw [cells_rat] at f1 f2
    have hx0 : xs.length = 3 := hxl
    rw [some_at (show 0 < xs.length by omega)] at f0
    have z0 := hz.field Tryz.underlying50 (i := 0) rfl (some_at (show 0 < xs.length by omega))
    rw [some_at (show 1 < xs.length by omega)] at f1
    have z1 := hz.field Tryz.underlying50 (i := 1) rfl (some_at (show 1 < xs.length by omega))
    rw [some_at (show 2 < xs.length by omega)] at f2
    have z2 := hz.field Tryz.underlying50 (i := 2) rfl (some_at (show 2 < xs.length by omega))
    obtain ⟨nm, rfl, hn⟩ := str_trod f0 z0
    obtain ⟨b, A, n1, c, D, m, e, r, rfl, rfl, rfl, h1⟩ := rat_trod f1 z1
    obtain ⟨b', A', n1', c', D', m', e', r', rfl, rfl, rfl, h2⟩ := rat_trod f2 z2
    have k0 := hc 0 (by omega)
    have k1 := hc 1 (by omega)
    have k2 := hc 2 (by omega)
    have k3 := hc 3 (by omega)
    have k4 := hc 4 (by omega)
    have k5 := hc 5 (by omega)
    have k6 := hc 6 (by omega)
    exact ⟨⟨nm, r, r'⟩, k0, ⟨b, A, n1, c, D, m, e, k1, k2, k3, h1⟩, ⟨b', A', n1', c', D', m', e', k4, k5, k6, h2⟩, hn⟩
theorem body_one (fuel : Nat) (cs : List Value) (y : DataW H × List MemPlace) (g o : Nat) (hl : cs.length = 2) (hc : ∀ i, i < 2 → W.cell? ⟨g, o + i, none⟩ = cs[i]?) (ht : DataW.trod enc Tryz.prog W 0 (fun _ => true) true fuel 38 cs = some y) (hz : Szd 38 y.1) : ∃ a, BdAt reachBytes W g o a := by
  match cs, hl with
  | [v0, v1], _ =>
    obtain ⟨xs, n, _, hx, _, hxl, hf⟩ := DataW.trod_struct Tryz.underlying38 ht
    rw [hx] at hz
    have f0 : DataW.trod enc Tryz.prog W 0 (fun _ => true) true n 9 (List.take (Tryz.prog.cellsOf 9) [v0, v1]) = xs[0]? := hf 0 _ rfl
    have f1 : DataW.trod enc Tryz.prog W 0 (fun _ => true) true n 36 (List.take (Tryz.prog.cellsOf 36) [v1]) = xs[1]? := hf 1 _ rfl
    have c1 : Tryz.prog.cellsOf 36 = 1 := by kernel_rfl
    rw [cells_str] at f0
    rw [c1] at f1
    have hx0 : xs.length = 2 := hxl
    rw [some_at (show 0 < xs.length by omega)] at f0
    have z0 := hz.field Tryz.underlying38 (i := 0) rfl (some_at (show 0 < xs.length by omega))
    rw [some_at (show 1 < xs.length by omega)] at f1
    have z1 := hz.field Tryz.underlying38 (i := 1) rfl (some_at (show 1 < xs.length by omega))
    obtain ⟨nm, rfl, hn⟩ := str_trod f0 z0
    obtain ⟨A, n1, c, l, rfl, h1⟩ := sls_open (MkAt reachBytes) 7 Tryz.underlying36 (by kernel_rfl) (by decide) mark_one f1 z1
    have k0 := hc 0 (by omega)
    have k1 := hc 1 (by omega)
    exact ⟨⟨nm, l⟩, A, n1, c, k0, k1, h1, hn⟩
theorem int_trod {v : Value} {fuel : Nat} {x : DataW H × List MemPlace} (ht : DataW.trod enc Tryz.prog W 0 (fun _ => true) true fuel 3 [v] = some x) : ∃ i : Int, v = .int .i64 i := by
  obtain ⟨i, hi, _⟩ := DataW.trod_int Tryz.underlying3 ht
  injection hi with hi _
  exact ⟨i, hi⟩
theorem joint_one (fuel : Nat) (cs : List Value) (y : DataW H × List MemPlace) (g o : Nat) (hl : cs.length = 7) (hc : ∀ i, i < 7 → W.cell? ⟨g, o + i, none⟩ = cs[i]?) (ht : DataW.trod enc Tryz.prog W 0 (fun _ => true) true fuel 59 cs = some y) (hz : Szd 59 y.1) : ∃ a, JtAt W g o a := by
  match cs, hl with
  | [v0, v1, v2, v3, v4, v5, v6], _ =>
    obtain ⟨xs, n, _, hx, _, hxl, hf⟩ := DataW.trod_struct Tryz.underlying59 ht
    rw [hx] at hz
    have f0 : DataW.trod enc Tryz.prog W 0 (fun _ => true) true n 9 (List.take (Tryz.prog.cellsOf 9) [v0, v1, v2, v3, v4, v5, v6]) = xs[0]? := hf 0 _ rfl
    have f1 : DataW.trod enc Tryz.prog W 0 (fun _ => true) true n 3 (List.take (Tryz.prog.cellsOf 3) [v1, v2, v3, v4, v5, v6]) = xs[1]? := hf 1 _ rfl
    have f2 : DataW.trod enc Tryz.prog W 0 (fun _ => true) true n 3 (List.take (Tryz.prog.cellsOf 3) [v2, v3, v4, v5, v6]) = xs[2]? := hf 2 _ rfl
    have f3 : DataW.trod enc Tryz.prog W 0 (fun _ => true) true n 3 (List.take (Tryz.prog.cellsOf 3) [v3, v4, v5, v6]) = xs[3]? := hf 3 _ rfl
    have f4 : DataW.trod enc Tryz.prog W 0 (fun _ => true) true n 3 (List.take (Tryz.prog.cellsOf 3) [v4, v5, v6]) = xs[4]? := hf 4 _ rfl
    have f5 : DataW.trod enc Tryz.prog W 0 (fun _ => true) true n 3 (List.take (Tryz.prog.cellsOf 3) [v5, v6]) = xs[5]? := hf 5 _ rfl
    have f6 : DataW.trod enc Tryz.prog W 0 (fun _ => true) true n 3 (List.take (Tryz.prog.cellsOf 3) [v6]) = xs[6]? := hf 6 _ rfl
    rw [cells_str] at f0
    rw [cells_int] at f1 f2 f3 f4 f5 f6
    have hx0 : xs.length = 7 := hxl
    rw [some_at (show 0 < xs.length by omega)] at f0
    have z0 := hz.field Tryz.underlying59 (i := 0) rfl (some_at (show 0 < xs.length by omega))
    rw [some_at (show 1 < xs.length by omega)] at f1
    have z1 := hz.field Tryz.underlying59 (i := 1) rfl (some_at (show 1 < xs.length by omega))
    rw [some_at (show 2 < xs.length by omega)] at f2
    have z2 := hz.field Tryz.underlying59 (i := 2) rfl (some_at (show 2 < xs.length by omega))
    rw [some_at (show 3 < xs.length by omega)] at f3
    have z3 := hz.field Tryz.underlying59 (i := 3) rfl (some_at (show 3 < xs.length by omega))
    rw [some_at (show 4 < xs.length by omega)] at f4
    have z4 := hz.field Tryz.underlying59 (i := 4) rfl (some_at (show 4 < xs.length by omega))
    rw [some_at (show 5 < xs.length by omega)] at f5
    have z5 := hz.field Tryz.underlying59 (i := 5) rfl (some_at (show 5 < xs.length by omega))
    rw [some_at (show 6 < xs.length by omega)] at f6
    have z6 := hz.field Tryz.underlying59 (i := 6) rfl (some_at (show 6 < xs.length by omega))
    obtain ⟨nm, rfl, hn⟩ := str_trod f0 z0
    obtain ⟨i1, rfl⟩ := int_trod f1
    obtain ⟨i2, rfl⟩ := int_trod f2
    obtain ⟨i3, rfl⟩ := int_trod f3
    obtain ⟨i4, rfl⟩ := int_trod f4
    obtain ⟨i5, rfl⟩ := int_trod f5
    obtain ⟨i6, rfl⟩ := int_trod f6
    have k0 := hc 0 (by omega)
    have k1 := hc 1 (by omega)
    have k2 := hc 2 (by omega)
    have k3 := hc 3 (by omega)
    have k4 := hc 4 (by omega)
    have k5 := hc 5 (by omega)
    have k6 := hc 6 (by omega)
    exact ⟨⟨nm, i1, i2, i3, i4, i5, i6⟩, k0, k1, k2, k3, k4, k5, k6, hn⟩
theorem driver_one (fuel : Nat) (cs : List Value) (y : DataW H × List MemPlace) (g o : Nat) (hl : cs.length = 2) (hc : ∀ i, i < 2 → W.cell? ⟨g, o + i, none⟩ = cs[i]?) (ht : DataW.trod enc Tryz.prog W 0 (fun _ => true) true fuel 64 cs = some y) (hz : Szd 64 y.1) : ∃ a, DrAt W g o a := by
  match cs, hl with
  | [v0, v1], _ =>
    obtain ⟨xs, n, _, hx, _, hxl, hf⟩ := DataW.trod_struct Tryz.underlying64 ht
    rw [hx] at hz
    have f0 : DataW.trod enc Tryz.prog W 0 (fun _ => true) true n 9 (List.take (Tryz.prog.cellsOf 9) [v0, v1]) = xs[0]? := hf 0 _ rfl
    have f1 : DataW.trod enc Tryz.prog W 0 (fun _ => true) true n 3 (List.take (Tryz.prog.cellsOf 3) [v1]) = xs[1]? := hf 1 _ rfl
    rw [cells_str] at f0
    rw [cells_int] at f1
    have hx0 : xs.length = 2 := hxl
    rw [some_at (show 0 < xs.length by omega)] at f0
    have z0 := hz.field Tryz.underlying64 (i := 0) rfl (some_at (show 0 < xs.length by omega))
    rw [some_at (show 1 < xs.length by omega)] at f1
    have z1 := hz.field Tryz.underlying64 (i := 1) rfl (some_at (show 1 < xs.length by omega))
    obtain ⟨nm, rfl, hn⟩ := str_trod f0 z0
    obtain ⟨i1, rfl⟩ := int_trod f1
    have k0 := hc 0 (by omega)
    have k1 := hc 1 (by omega)
    exact ⟨⟨nm, i1⟩, k0, k1, hn⟩
theorem link_trod {v0 v1 v2 v3 : Value} {fuel : Nat} {x : DataW H × List MemPlace} (ht : DataW.trod enc Tryz.prog W 0 (fun _ => true) true fuel 26 [v0, v1, v2, v3] = some x) (hz : Szd 26 x.1) :
    ∃ A n c B p d C q e L, v0 = strV L.name ∧ v1 = .slice A n c ∧ v2 = .slice B p d ∧ v3 = .slice C q e ∧ LkS reachBytes W A n c B p d C q e L := by
  obtain ⟨xs, n, _, hx, _, hxl, hf⟩ := DataW.trod_struct Tryz.underlying26 ht
  rw [hx] at hz
  have f0 : DataW.trod enc Tryz.prog W 0 (fun _ => true) true n 9 (List.take (Tryz.prog.cellsOf 9) [v0, v1, v2, v3]) = xs[0]? := hf 0 _ rfl
  have f1 : DataW.trod enc Tryz.prog W 0 (fun _ => true) true n 22 (List.take (Tryz.prog.cellsOf 22) [v1, v2, v3]) = xs[1]? := hf 1 _ rfl
  have f2 : DataW.trod enc Tryz.prog W 0 (fun _ => true) true n 23 (List.take (Tryz.prog.cellsOf 23) [v2, v3]) = xs[2]? := hf 2 _ rfl
  have f3 : DataW.trod enc Tryz.prog W 0 (fun _ => true) true n 24 (List.take (Tryz.prog.cellsOf 24) [v3]) = xs[3]? := hf 3 _ rfl
  have c1 : Tryz.prog.cellsOf 22 = 1 := by kernel_rfl
  have c2 : Tryz.prog.cellsOf 23 = 1 := by kernel_rfl
  have c3 : Tryz.prog.cellsOf 24 = 1 := by kernel_rfl
  rw [cells_str] at f0
  rw [c1] at f1
  rw [c2] at f2
  rw [c3] at f3
  have hx0 : xs.length = 4 := hxl
  rw [some_at (show 0 < xs.length by omega)] at f0
  have z0 := hz.field Tryz.underlying26 (i := 0) rfl (some_at (show 0 < xs.length by omega))
  rw [some_at (show 1 < xs.length by omega)] at f1
  have z1 := hz.field Tryz.underlying26 (i := 1) rfl (some_at (show 1 < xs.length by omega))
  rw [some_at (show 2 < xs.length by omega)] at f2
  have z2 := hz.field Tryz.underlying26 (i := 2) rfl (some_at (show 2 < xs.length by omega))
  rw [some_at (show 3 < xs.length by omega)] at f3
  have z3 := hz.field Tryz.underlying26 (i := 3) rfl (some_at (show 3 < xs.length by omega))
  obtain ⟨nm, rfl, hn⟩ := str_trod f0 z0
  obtain ⟨A, n1, c, l1, rfl, h1⟩ := sls_open (BdAt reachBytes) 2 Tryz.underlying22 (by kernel_rfl) (by decide) body_one f1 z1
  obtain ⟨B, p, d, l2, rfl, h2⟩ := sls_open JtAt 7 Tryz.underlying23 (by kernel_rfl) (by decide) joint_one f2 z2
  obtain ⟨C, q, e, l3, rfl, h3⟩ := sls_open DrAt 2 Tryz.underlying24 (by kernel_rfl) (by decide) driver_one f3 z3
  exact ⟨A, n1, c, B, p, d, C, q, e, ⟨nm, l1, l2, l3⟩, rfl, rfl, rfl, rfl, hn, h1, h2, h3⟩
variable {base : Nat}
theorem link_open {v : Value} {d : DataW H} {p : List MemPlace} (hok : Value.okWide Tryz.prog W .any base 26 v) (h : DataW.Trod enc Tryz.prog W 0 (fun _ => true) true 26 v d p) (hz : Szd 26 d) :
    ∃ A n c B p d C q e L, v = .agg #[strV L.name, .slice A n c, .slice B p d, .slice C q e] ∧ LkS reachBytes W A n c B p d C q e L := by
  obtain ⟨cs, rfl, hsz, _⟩ := cells_ok (ts := [9, 22, 23, 24]) Tryz.underlying26 (by kernel_rfl) (by kernel_rfl) hok
  obtain ⟨fuel, h⟩ := h
  obtain ⟨l⟩ := cs
  match l, hsz with
  | [v0, v1, v2, v3], _ =>
    obtain ⟨A, n, c, B, p, d, C, q, e, L, rfl, rfl, rfl, rfl, hk⟩ := link_trod h hz
    exact ⟨A, n, c, B, p, d, C, q, e, L, rfl, hk⟩
theorem body_open {v : Value} {d : DataW H} {p : List MemPlace} (hok : Value.okWide Tryz.prog W .any base 38 v) (h : DataW.Trod enc Tryz.prog W 0 (fun _ => true) true 38 v d p) (hz : Szd 38 d) :
    ∃ A n c, ∃ b : BodyL, v = .agg #[strV b.name, .slice A n c] ∧ SlS (MkAt reachBytes) 7 W A n c b.pts ∧ NmL b.name := by
  obtain ⟨cs, rfl, hsz, _⟩ := cells_ok (ts := [9, 36]) Tryz.underlying38 (by kernel_rfl) (by kernel_rfl) hok
  obtain ⟨fuel, h⟩ := h
  obtain ⟨l⟩ := cs
  match l, hsz with
  | [v0, v1], _ =>
    have ht : DataW.trod enc Tryz.prog W 0 (fun _ => true) true fuel 38 [v0, v1] = some (d, p) := h
    obtain ⟨xs, n, _, hx, _, hxl, hf⟩ := DataW.trod_struct Tryz.underlying38 ht
    injection hx with hx _
    rw [hx] at hz
    have f0 : DataW.trod enc Tryz.prog W 0 (fun _ => true) true n 9 (List.take (Tryz.prog.cellsOf 9) [v0, v1]) = xs[0]? := hf 0 _ rfl
    have f1 : DataW.trod enc Tryz.prog W 0 (fun _ => true) true n 36 (List.take (Tryz.prog.cellsOf 36) [v1]) = xs[1]? := hf 1 _ rfl
    have c1 : Tryz.prog.cellsOf 36 = 1 := by kernel_rfl
    rw [cells_str] at f0
    rw [c1] at f1
    have hx0 : xs.length = 2 := hxl
    rw [some_at (show 0 < xs.length by omega)] at f0
    have z0 := hz.field Tryz.underlying38 (i := 0) rfl (some_at (show 0 < xs.length by omega))
    rw [some_at (show 1 < xs.length by omega)] at f1
    have z1 := hz.field Tryz.underlying38 (i := 1) rfl (some_at (show 1 < xs.length by omega))
    obtain ⟨nm, rfl, hn⟩ := str_trod f0 z0
    obtain ⟨A, n1, c, l, rfl, h1⟩ := sls_open (MkAt reachBytes) 7 Tryz.underlying36 (by kernel_rfl) (by decide) mark_one f1 z1
    exact ⟨A, n1, c, ⟨nm, l⟩, rfl, h1, hn⟩
end
end Go.Proofs.YtckjakojllcdoaaGreatDoor
