/- Part C2: lemmas and walks that the claim rests on. No claim is made here. -/
import Derived.Deep.RegionHeld3
import Derived.Deep.DrawnRows
import Derived.Test.YtmneloabphplmaaGreatC1
set_option linter.unusedVariables false
/- Walks: the reference: turns between, points turned. -/
namespace Go.Proofs.YtmneloabphplmaaGreat
open Go Go.RowKit Bn
attribute [local go_sem ↓] Go.wp_at_zero Go.wp_at_succ
set_option maxRecDepth 100000 in
set_option maxHeartbeats 4000000 in
/-- linkworkref12.Between -/
theorem u_Between_h (w : World) (b : Bool) (A : Option Addr) (n c : Nat) (D : Option Addr) (m e : Nat) (x : Bool) (t : TN) (k : Nat) (h : TK w b A n c D m e x t k) (b' : Bool) (A' : Option Addr) (n' c' : Nat) (D' : Option Addr) (m' e' : Nat) (x' : Bool) (t' : TN) (k' : Nat) (h' : TK w b' A' n' c' D' m' e' x' t' k') (h0 : 0 < k) (hk : k ≤ 50000) (h0' : 0 < k') (hk' : k' ≤ 50000) (hh : (tadd t' (tneg t)).h = true) :
    Calls Tryz.prog 20 #[.agg #[.bool b, .slice A n c, .slice D m e, .bool x], .agg #[.bool b', .slice A' n' c', .slice D' m' e', .bool x']] w (RetT w (tbetween t t') (6 * k + 4 * k' + 20)) := by
  have HT := Lib.hid (show tbetween t t' = tadd t ⟨((1 : Int) : Rat), false⟩ by unfold tbetween; rw [if_pos hh]; rfl)
  have HH := Lib.hid hh
  clear hh
  go_enter Tryz.func20, Tryz.ntmps20
  go_wp2_with fail
  have p1 : Kp w (((w.alloc (.cells #[.bool b, .slice A n c, .slice D m e, .bool x] 26)).alloc (.cells #[.bool b', .slice A' n' c', .slice D' m' e', .bool x'] 26)).alloc (.cells #[.bool false, .slice none 0 0, .slice none 0 0, .bool false] 26)) := ((((Kp.refl w).alloc (.cells #[.bool b, .slice A n c, .slice D m e, .bool x] 26)).alloc (.cells #[.bool b', .slice A' n' c', .slice D' m' e', .bool x'] 26)).alloc (.cells #[.bool false, .slice none 0 0, .slice none 0 0, .bool false] 26))
  have bw1 : Below w.heap.size w (((w.alloc (.cells #[.bool b, .slice A n c, .slice D m e, .bool x] 26)).alloc (.cells #[.bool b', .slice A' n' c', .slice D' m' e', .bool x'] 26)).alloc (.cells #[.bool false, .slice none 0 0, .slice none 0 0, .bool false] 26)) := ((((brefl w).alloc (by first | omega | (simp <;> omega)) (.cells #[.bool b, .slice A n c, .slice D m e, .bool x] 26)).alloc (by first | omega | (simp <;> omega)) (.cells #[.bool b', .slice A' n' c', .slice D' m' e', .bool x'] 26)).alloc (by first | omega | (simp <;> omega)) (.cells #[.bool false, .slice none 0 0, .slice none 0 0, .bool false] 26))
  have x1_0 : Blk (((w.alloc (.cells #[.bool b, .slice A n c, .slice D m e, .bool x] 26)).alloc (.cells #[.bool b', .slice A' n' c', .slice D' m' e', .bool x'] 26)).alloc (.cells #[.bool false, .slice none 0 0, .slice none 0 0, .bool false] 26)) (w.heap.size) 26 #[.bool b, .slice A n c, .slice D m e, .bool x] := (((blkAt _ _ _ (by simp)).alloc (.cells #[.bool b', .slice A' n' c', .slice D' m' e', .bool x'] 26)).alloc (.cells #[.bool false, .slice none 0 0, .slice none 0 0, .bool false] 26))
  have x1_1 : Blk (((w.alloc (.cells #[.bool b, .slice A n c, .slice D m e, .bool x] 26)).alloc (.cells #[.bool b', .slice A' n' c', .slice D' m' e', .bool x'] 26)).alloc (.cells #[.bool false, .slice none 0 0, .slice none 0 0, .bool false] 26)) (w.heap.size + 1) 26 #[.bool b', .slice A' n' c', .slice D' m' e', .bool x'] := ((blkAt _ _ _ (by simp)).alloc (.cells #[.bool false, .slice none 0 0, .slice none 0 0, .bool false] 26))
  have x1_2 : Blk (((w.alloc (.cells #[.bool b, .slice A n c, .slice D m e, .bool x] 26)).alloc (.cells #[.bool b', .slice A' n' c', .slice D' m' e', .bool x'] 26)).alloc (.cells #[.bool false, .slice none 0 0, .slice none 0 0, .bool false] 26)) (w.heap.size + 1 + 1) 26 #[.bool false, .slice none 0 0, .slice none 0 0, .bool false] := (blkAt _ _ _ (by simp))
  have lw1 : w.heap.size + 3 ≤ (((w.alloc (.cells #[.bool b, .slice A n c, .slice D m e, .bool x] 26)).alloc (.cells #[.bool b', .slice A' n' c', .slice D' m' e', .bool x'] 26)).alloc (.cells #[.bool false, .slice none 0 0, .slice none 0 0, .bool false] 26)).heap.size := by simp
  generalize hE1 : (((w.alloc (.cells #[.bool b, .slice A n c, .slice D m e, .bool x] 26)).alloc (.cells #[.bool b', .slice A' n' c', .slice D' m' e', .bool x'] 26)).alloc (.cells #[.bool false, .slice none 0 0, .slice none 0 0, .bool false] 26)) = w1 at p1 bw1 lw1 x1_0 x1_1 x1_2 ⊢
  clear hE1
  replace h := h.keep p1
  replace h' := h'.keep p1
  obtain ⟨cx1_0_0, cx1_0_1, cx1_0_2, cx1_0_3⟩ := x1_0.c4
  obtain ⟨lx1_0_0, lx1_0_1, lx1_0_2, lx1_0_3⟩ := lts0 x1_0.lt
  obtain ⟨cx1_1_0, cx1_1_1, cx1_1_2, cx1_1_3⟩ := x1_1.c4
  obtain ⟨lx1_1_0, lx1_1_1, lx1_1_2, lx1_1_3⟩ := lts1 x1_1.lt
  refine wp_region_lin (B := w.heap.size) (fr := fun xf => ⟨List.toArray (.agg #[.bool b, .slice A n c, .slice D m e, .bool x] :: .agg #[.bool b', .slice A' n' c', .slice D' m' e', .bool x'] :: .pointer (some ⟨w.heap.size, 0, none⟩) :: .pointer (some ⟨w.heap.size + 1, 0, none⟩) :: .pointer (some ⟨w.heap.size + 1 + 1, 0, none⟩) :: xf 4 :: xf 0 :: xf 1 :: xf 2 :: xf 3 :: undef :: undef :: undef :: undef :: undef :: undef :: undef :: undef :: undef :: undef :: undef :: undef :: undef :: undef :: undef :: undef :: undef :: undef :: undef :: undef :: undef :: undef :: []), []⟩) (R := fun i => List.getD ((PEq (.agg #[.bool b', .slice A' n' c', .slice D' m' e', .bool x'])) :: (PEq (.agg #[.bool b, .slice A n c, .slice D m e, .bool x])) :: (VT (tneg ((t))) ((k))) :: (VT (tadd ((t')) ((tneg ((t))))) (2 * ((k')) + 2 * (((k))) + 3)) :: PAny :: PAny :: []) i (fun _ _ => True)) (es := [⟨4, 5, 26, #[.bool false, .slice none 0 0, .slice none 0 0, .bool false], CT (tadd ((t')) ((tneg ((t))))) (2 * ((k')) + 2 * (((k))) + 3)⟩]) (ow := [⟨w.heap.size, 6, 0, 26, #[.bool b, .slice A n c, .slice D m e, .bool x], CAny⟩, ⟨w.heap.size + 1, 6, 0, 26, #[.bool b', .slice A' n' c', .slice D' m' e', .bool x'], CAny⟩, ⟨w.heap.size + 1 + 1, 6, 0, 26, #[.bool false, .slice none 0 0, .slice none 0 0, .bool false], CAny⟩]) (x0 := (fun _ => undef)) (by kernel_rfl)
    (each_of ⟨fun _ _ => rfl, fun _ _ => rfl, fun _ _ => rfl, fun _ _ => rfl, fun _ _ => rfl, fun _ _ => rfl, trivial⟩) (each_of (acyc_from _ 0 (by kernel_rfl))) (AllStab.get _ ⟨stEq _, stEq _, stT _ _, stT _ _, stAny, stAny, trivial⟩)
    (List.forall_mem_cons.2 ⟨scT _ _, fun _ h => nomatch h⟩) (List.forall_mem_cons.2 ⟨scAny, List.forall_mem_cons.2 ⟨scAny, List.forall_mem_cons.2 ⟨scAny, fun _ h => nomatch h⟩⟩⟩) (List.forall_mem_cons.2 ⟨⟨by simp, by simp⟩, fun _ h => nomatch h⟩) bw1.size
    (List.forall_mem_cons.2 ⟨⟨x1_0, by show w.heap.size ≤ w.heap.size; omega⟩, List.forall_mem_cons.2 ⟨⟨x1_1, by show w.heap.size ≤ w.heap.size + 1; omega⟩, List.forall_mem_cons.2 ⟨⟨x1_2, by show w.heap.size ≤ w.heap.size + 1 + 1; omega⟩, fun _ h => nomatch h⟩⟩⟩) (ownDist (by simp <;> omega))
    (each_of ⟨?_, ?_, ?_, ?_, ?_, ?_, trivial⟩) ?_
  · exact .inl ⟨by simp, by simp, fun xf wq hk hbl hd K hK => by
      have y : Blk wq (w.heap.size + 1) 26 #[.bool b', .slice A' n' c', .slice D' m' e', .bool x'] := hbl _ (List.Mem.tail _ (List.Mem.head _)) (by simp [Region.binds])
      obtain ⟨hcl0, hcl1, hcl2, hcl3⟩ := y.c4
      (try dsimp only)
      go_simp
      exact hK.out (.agg #[.bool b', .slice A' n' c', .slice D' m' e', .bool x']) _ rfl (brefl _)⟩
  · exact .inl ⟨by simp, by simp, fun xf wq hk hbl hd K hK => by
      have y : Blk wq (w.heap.size) 26 #[.bool b, .slice A n c, .slice D m e, .bool x] := hbl _ (List.Mem.head _) (by simp [Region.binds])
      obtain ⟨hcl0, hcl1, hcl2, hcl3⟩ := y.c4
      (try dsimp only)
      go_simp
      exact hK.out (.agg #[.bool b, .slice A n c, .slice D m e, .bool x]) _ rfl (brefl _)⟩
  · exact .inl ⟨by simp, by simp, fun xf wq hk hbl hd K hK => by
      have dq1 : xf 1 = .agg #[.bool b, .slice A n c, .slice D m e, .bool x] := hd ⟨1, .data⟩ (by simp) rfl
      (try dsimp only); (try simp only [dq1])
      go_simp
      go_at_call 31
      (with_reducible refine (u_Neg _ b A n c D m e x (t) (k) ?_ ?_ ?_).mono ?_); (exact (h.keep hk)); (first | omega | decide | assumption); (first | omega | decide | assumption); rintro e wr ⟨b3, A3, n3, c3, A'3, n'3, c'3, x3, rfl, h3, hbr⟩
      have hz := hK.out _ _ ⟨b3, A3, n3, c3, A'3, n'3, c'3, x3, rfl, h3⟩ hbr
      simp only [dq1] at hz
      exact hz⟩
  · exact .inl ⟨by simp, by simp, fun xf wq hk hbl hd K hK => by
      have dq0 : xf 0 = .agg #[.bool b', .slice A' n' c', .slice D' m' e', .bool x'] := hd ⟨0, .data⟩ (by simp) rfl
      obtain ⟨b3, A3, n3, c3, A'3, n'3, c'3, x3, dq2, h3⟩ : VT (tneg ((t))) ((k)) (xf 2) wq := hd ⟨2, .data⟩ (by simp) rfl
      (try dsimp only); (try simp only [dq0, dq2])
      go_simp
      go_at_call 18
      (with_reducible refine (u_Add _ b' A' n' c' D' m' e' x' (t') (k') ?_ b3 A3 n3 c3 A'3 n'3 c'3 x3 (tneg ((t))) ((k)) ?_ ?_ ?_ ?_ ?_).mono ?_); (exact (h'.keep hk)); (exact h3.tk); (first | omega | decide | assumption); (first | omega | decide | assumption); (first | omega | decide | assumption); (first | omega | decide | assumption); rintro e wr ⟨b4, A4, n4, c4, A'4, n'4, c'4, x4, rfl, h4, hbr⟩
      have hz := hK.out _ _ ⟨b4, A4, n4, c4, A'4, n'4, c'4, x4, rfl, h4⟩ hbr
      simp only [dq0, dq2] at hz
      exact hz⟩
  · exact .inr (.inl ⟨⟨4, 5, 26, #[.bool false, .slice none 0 0, .slice none 0 0, .bool false], CT (tadd ((t')) ((tneg ((t))))) (2 * ((k')) + 2 * (((k))) + 3)⟩, by simp, rfl, by simp, by simp, by simp, fun _ _ => True.intro, fun xf wq K hK => by
      (try dsimp only)
      go_simp
      exact hK.out⟩)
  · exact .inr (.inr (.inl ⟨⟨4, 5, 26, #[.bool false, .slice none 0 0, .slice none 0 0, .bool false], CT (tadd ((t')) ((tneg ((t))))) (2 * ((k')) + 2 * (((k))) + 3)⟩, by simp, rfl, by simp, by simp, by simp, by simp, (show KT 26 = false by decide), fun _ _ => True.intro, ⟨⟨4, .data⟩, by simp, rfl, rfl⟩, fun xf wq g hx hblk hd => by
      obtain ⟨b4, A4, n4, c4, A'4, n'4, c'4, x4, dq3, h4⟩ : VT (tadd ((t')) ((tneg ((t))))) (2 * ((k')) + 2 * (((k))) + 3) (xf 3) wq := hd ⟨3, .data⟩ (by simp) rfl
      dsimp only at hx hblk
      refine ⟨[.bool b4, .slice A4 n4 c4, .slice A'4 n'4 c'4, .bool x4], fun w' hk => ⟨b4, A4, n4, c4, A'4, n'4, c'4, x4, rfl, h4.keep hk⟩, fun K hK => ?_⟩
      have hc0 : wq.cell? ⟨g, 0, none⟩ = some (.bool false) := hblk.cell 0
      have hc1 : wq.cell? ⟨g, 1, none⟩ = some (.slice none 0 0) := hblk.cell 1
      have hc2 : wq.cell? ⟨g, 2, none⟩ = some (.slice none 0 0) := hblk.cell 2
      have hc3 : wq.cell? ⟨g, 3, none⟩ = some (.bool false) := hblk.cell 3
      have hf0 : wq.frozen? ⟨g, 0, none⟩ = false := hblk.frozen 0
      have hf1 : wq.frozen? ⟨g, 1, none⟩ = false := hblk.frozen 1
      have hf2 : wq.frozen? ⟨g, 2, none⟩ = false := hblk.frozen 2
      have hf3 : wq.frozen? ⟨g, 3, none⟩ = false := hblk.frozen 3
      (try dsimp only)
      simp only [hx, dq3]
      go_simp
      have hz := hK.out undef
      simp only [hx, dq3] at hz
      exact hz⟩))
  clear cx1_0_0 cx1_0_1 cx1_0_2 cx1_0_3 lx1_0_0 lx1_0_1 lx1_0_2 lx1_0_3 cx1_1_0 cx1_1_1 cx1_1_2 cx1_1_3 lx1_1_0 lx1_1_1 lx1_1_2 lx1_1_3
  intro y2 w2 kq2 hbl2 lw2 how hrr hfl hds
  replace h := h.keep kq2
  replace h' := h'.keep kq2
  obtain ⟨_, z2_0, ez, _⟩ := how _ (List.Mem.head _)
  obtain rfl := ez (by simp)
  dsimp only at z2_0
  obtain ⟨_, z2_1, ez, _⟩ := how _ (List.Mem.tail _ (List.Mem.head _))
  obtain rfl := ez (by simp)
  dsimp only at z2_1
  obtain ⟨_, z2_2, ez, _⟩ := how _ (List.Mem.tail _ (List.Mem.tail _ (List.Mem.head _)))
  obtain rfl := ez (by simp)
  dsimp only at z2_2
  obtain ⟨g5_2, _, eg5_2, Gg5_2, xg5_2, ⟨b4, A4, n4, c4, A'4, n'4, c'4, x4, rfl, h4⟩⟩ := hfl _ (List.Mem.head _)
  dsimp only at eg5_2 Gg5_2 xg5_2
  have lgg5_2 : g5_2 < w2.heap.size := xg5_2.lt
  (try dsimp only)
  simp only [eg5_2]
  clear hrr hfl how hds eg5_2
  clear x1_0 x1_1 x1_2
  have bw2 : Below w.heap.size w w2 := bw1.trans hbl2
  clear bw1
  have cz2_0_0 : w2.cell? ⟨w.heap.size, 0, none⟩ = some (.bool b) := z2_0.cell 0
  have cz2_0_1 : w2.cell? ⟨w.heap.size, 1, none⟩ = some (.slice A n c) := z2_0.cell 1
  have cz2_0_2 : w2.cell? ⟨w.heap.size, 2, none⟩ = some (.slice D m e) := z2_0.cell 2
  have cz2_0_3 : w2.cell? ⟨w.heap.size, 3, none⟩ = some (.bool x) := z2_0.cell 3
  obtain ⟨lz2_0_0, lz2_0_1, lz2_0_2, lz2_0_3⟩ := lts0 z2_0.lt
  have cxg5_2_0 : w2.cell? ⟨g5_2, 0, none⟩ = some (.bool b4) := xg5_2.cell 0
  have cxg5_2_1 : w2.cell? ⟨g5_2, 1, none⟩ = some (.slice A4 n4 c4) := xg5_2.cell 1
  have cxg5_2_2 : w2.cell? ⟨g5_2, 2, none⟩ = some (.slice A'4 n'4 c'4) := xg5_2.cell 2
  have cxg5_2_3 : w2.cell? ⟨g5_2, 3, none⟩ = some (.bool x4) := xg5_2.cell 3
  obtain ⟨lxg5_2_0, lxg5_2_1, lxg5_2_2, lxg5_2_3⟩ := lts0 xg5_2.lt
  obtain rfl : x4 = true := h4.2.1.trans HH.out
  go_wp2_with fail
  refine wp_region_lin (B := w.heap.size) (fr := fun xf => ⟨List.toArray (.agg #[.bool b, .slice A n c, .slice D m e, .bool x] :: .agg #[.bool b', .slice A' n' c', .slice D' m' e', .bool x'] :: .pointer (some ⟨w.heap.size, 0, none⟩) :: .pointer (some ⟨w.heap.size + 1, 0, none⟩) :: .pointer (some ⟨w.heap.size + 1 + 1, 0, none⟩) :: .pointer (some ⟨g5_2, 0, none⟩) :: y2 0 :: y2 1 :: y2 2 :: y2 3 :: .bool true :: .pointer (some ⟨g5_2, 3, none⟩) :: .bool true :: xf 0 :: xf 1 :: xf 2 :: xf 3 :: undef :: undef :: undef :: undef :: undef :: undef :: undef :: undef :: undef :: undef :: undef :: undef :: undef :: undef :: undef :: []), []⟩) (R := fun i => List.getD ((PEq (.agg #[.bool b, .slice A n c, .slice D m e, .bool x])) :: (VQ (((1 : Int) : Rat)) (1)) :: (VT ⟨((1 : Int) : Rat), false⟩ (1)) :: (VT (tadd ((t)) ((⟨((1 : Int) : Rat), false⟩))) (2 * ((k)) + 2 * ((1)) + 3)) :: PAny :: []) i (fun _ _ => True)) (es := []) (ow := [⟨w.heap.size, 5, 0, 26, #[.bool b, .slice A n c, .slice D m e, .bool x], CAny⟩, ⟨w.heap.size + 1, 5, 0, 26, #[.bool b', .slice A' n' c', .slice D' m' e', .bool x'], CAny⟩, ⟨w.heap.size + 1 + 1, 4, 0, 26, #[.bool false, .slice none 0 0, .slice none 0 0, .bool false], CT (tadd ((t)) ((⟨((1 : Int) : Rat), false⟩))) (2 * ((k)) + 2 * ((1)) + 3)⟩, ⟨g5_2, 5, 0, 26, #[.bool b4, .slice A4 n4 c4, .slice A'4 n'4 c'4, .bool true], CAny⟩]) (x0 := (fun _ => undef)) (by kernel_rfl)
    (each_of ⟨fun _ _ => rfl, fun _ _ => rfl, fun _ _ => rfl, fun _ _ => rfl, fun _ _ => rfl, trivial⟩) (each_of (acyc_from _ 0 (by kernel_rfl))) (AllStab.get _ ⟨stEq _, stQ _ _, stT _ _, stT _ _, stAny, trivial⟩)
    (fun _ h => nomatch h) (List.forall_mem_cons.2 ⟨scAny, List.forall_mem_cons.2 ⟨scAny, List.forall_mem_cons.2 ⟨scT _ _, List.forall_mem_cons.2 ⟨scAny, fun _ h => nomatch h⟩⟩⟩⟩) (fun _ h => nomatch h) bw2.size
    (List.forall_mem_cons.2 ⟨⟨z2_0, by show w.heap.size ≤ w.heap.size; omega⟩, List.forall_mem_cons.2 ⟨⟨z2_1, by show w.heap.size ≤ w.heap.size + 1; omega⟩, List.forall_mem_cons.2 ⟨⟨z2_2, by show w.heap.size ≤ w.heap.size + 1 + 1; omega⟩, List.forall_mem_cons.2 ⟨⟨xg5_2, by show w.heap.size ≤ g5_2; omega⟩, fun _ h => nomatch h⟩⟩⟩⟩) (ownDist (by simp <;> omega))
    (each_of ⟨?_, ?_, ?_, ?_, ?_, trivial⟩) ?_
  · exact .inl ⟨by simp, by simp, fun xf wq hk hbl hd K hK => by
      have y : Blk wq (w.heap.size) 26 #[.bool b, .slice A n c, .slice D m e, .bool x] := hbl _ (List.Mem.head _) (by simp [Region.binds])
      obtain ⟨hcl0, hcl1, hcl2, hcl3⟩ := y.c4
      (try dsimp only)
      go_simp
      exact hK.out (.agg #[.bool b, .slice A n c, .slice D m e, .bool x]) _ rfl (brefl _)⟩
  · exact .inl ⟨by simp, by simp, fun xf wq hk hbl hd K hK => by
      (try dsimp only)
      go_simp
      go_at_call 48
      (with_reducible refine (u_one _).mono ?_); rintro e wr ⟨b7, A7, n7, c7, A'7, n'7, c'7, rfl, h7, hbr⟩
      exact hK.out _ _ ⟨b7, A7, n7, c7, A'7, n'7, c'7, rfl, h7⟩ hbr⟩
  · exact .inl ⟨by simp, by simp, fun xf wq hk hbl hd K hK => by
      obtain ⟨b7, A7, n7, c7, A'7, n'7, c'7, dq1, h7⟩ : VQ (((1 : Int) : Rat)) (1) (xf 1) wq := hd ⟨1, .data⟩ (by simp) rfl
      (try dsimp only); (try simp only [dq1])
      go_simp
      have hz := hK.out _ _ ⟨b7, A7, n7, c7, A'7, n'7, c'7, false, rfl, TV.frac h7⟩ (brefl _)
      simp only [dq1] at hz
      exact hz⟩
  · exact .inl ⟨by simp, by simp, fun xf wq hk hbl hd K hK => by
      have dq0 : xf 0 = .agg #[.bool b, .slice A n c, .slice D m e, .bool x] := hd ⟨0, .data⟩ (by simp) rfl
      obtain ⟨b7, A7, n7, c7, A'7, n'7, c'7, xx, dq2, hB6_2⟩ : VT ⟨((1 : Int) : Rat), false⟩ (1) (xf 2) wq := hd ⟨2, .data⟩ (by simp) rfl
      (try dsimp only); (try simp only [dq0, dq2])
      go_simp
      go_at_call 18
      (with_reducible refine (u_Add _ b A n c D m e x (t) (k) ?_ b7 A7 n7 c7 A'7 n'7 c'7 xx (⟨((1 : Int) : Rat), false⟩) (1) ?_ ?_ ?_ ?_ ?_).mono ?_); (exact (h.keep hk)); (exact hB6_2.tk); (first | omega | decide | assumption); (first | omega | decide | assumption); (first | omega | decide | assumption); (first | omega | decide | assumption); rintro e wr ⟨b8, A8, n8, c8, A'8, n'8, c'8, x8, rfl, h8, hbr⟩
      have hz := hK.out _ _ ⟨b8, A8, n8, c8, A'8, n'8, c'8, x8, rfl, h8⟩ hbr
      simp only [dq0, dq2] at hz
      exact hz⟩
  · exact .inr (.inr (.inr ⟨⟨w.heap.size + 1 + 1, 4, 0, 26, #[.bool false, .slice none 0 0, .slice none 0 0, .bool false], CT (tadd ((t)) ((⟨((1 : Int) : Rat), false⟩))) (2 * ((k)) + 2 * ((1)) + 3)⟩, by simp, rfl, by simp, by simp, (show KT 26 = false by decide), fun _ _ => True.intro, fun xf wq hblk hd => by
      obtain ⟨b8, A8, n8, c8, A'8, n'8, c'8, x8, dq3, h8⟩ : VT (tadd ((t)) ((⟨((1 : Int) : Rat), false⟩))) (2 * ((k)) + 2 * ((1)) + 3) (xf 3) wq := hd ⟨3, .data⟩ (by simp) rfl
      dsimp only at hblk
      refine ⟨[.bool b8, .slice A8 n8 c8, .slice A'8 n'8 c'8, .bool x8], fun w' hk => ⟨b8, A8, n8, c8, A'8, n'8, c'8, x8, rfl, h8.keep hk⟩, fun K hK => ?_⟩
      have hc0 : wq.cell? ⟨w.heap.size + 1 + 1, 0, none⟩ = some (.bool false) := hblk.cell 0
      have hc1 : wq.cell? ⟨w.heap.size + 1 + 1, 1, none⟩ = some (.slice none 0 0) := hblk.cell 1
      have hc2 : wq.cell? ⟨w.heap.size + 1 + 1, 2, none⟩ = some (.slice none 0 0) := hblk.cell 2
      have hc3 : wq.cell? ⟨w.heap.size + 1 + 1, 3, none⟩ = some (.bool false) := hblk.cell 3
      have hf0 : wq.frozen? ⟨w.heap.size + 1 + 1, 0, none⟩ = false := hblk.frozen 0
      have hf1 : wq.frozen? ⟨w.heap.size + 1 + 1, 1, none⟩ = false := hblk.frozen 1
      have hf2 : wq.frozen? ⟨w.heap.size + 1 + 1, 2, none⟩ = false := hblk.frozen 2
      have hf3 : wq.frozen? ⟨w.heap.size + 1 + 1, 3, none⟩ = false := hblk.frozen 3
      (try dsimp only)
      simp only [dq3]
      go_simp
      have hz := hK.out undef
      simp only [dq3] at hz
      exact hz⟩))
  clear cz2_0_0 cz2_0_1 cz2_0_2 cz2_0_3 lz2_0_0 lz2_0_1 lz2_0_2 lz2_0_3 cxg5_2_0 cxg5_2_1 cxg5_2_2 cxg5_2_3 lxg5_2_0 lxg5_2_1 lxg5_2_2 lxg5_2_3
  intro y6 w6 kq6 hbl6 lw6 how hrr hfl hds
  replace h := h.keep kq6
  replace h' := h'.keep kq6
  replace h4 := h4.keep kq6
  obtain ⟨_, z6_0, ez, _⟩ := how _ (List.Mem.head _)
  obtain rfl := ez (by simp)
  dsimp only at z6_0
  obtain ⟨_, z6_1, ez, _⟩ := how _ (List.Mem.tail _ (List.Mem.head _))
  obtain rfl := ez (by simp)
  dsimp only at z6_1
  obtain ⟨_, z6_2, _, ez⟩ := how _ (List.Mem.tail _ (List.Mem.tail _ (List.Mem.head _)))
  obtain ⟨b8, A8, n8, c8, A'8, n'8, c'8, x8, rfl, h8⟩ := ez (by simp)
  dsimp only at z6_2
  obtain ⟨_, z6_3, ez, _⟩ := how _ (List.Mem.tail _ (List.Mem.tail _ (List.Mem.tail _ (List.Mem.head _))))
  obtain rfl := ez (by simp)
  dsimp only at z6_3
  (try dsimp only)
  clear hrr hfl how hds 
  clear z2_0 z2_1 z2_2 xg5_2
  have bw6 : Below w.heap.size w w6 := bw2.trans hbl6
  clear bw2
  have cz6_2_0 : w6.cell? ⟨w.heap.size + 1 + 1, 0, none⟩ = some (.bool b8) := z6_2.cell 0
  have cz6_2_1 : w6.cell? ⟨w.heap.size + 1 + 1, 1, none⟩ = some (.slice A8 n8 c8) := z6_2.cell 1
  have cz6_2_2 : w6.cell? ⟨w.heap.size + 1 + 1, 2, none⟩ = some (.slice A'8 n'8 c'8) := z6_2.cell 2
  have cz6_2_3 : w6.cell? ⟨w.heap.size + 1 + 1, 3, none⟩ = some (.bool x8) := z6_2.cell 3
  obtain ⟨lz6_2_0, lz6_2_1, lz6_2_2, lz6_2_3⟩ := lts2 z6_2.lt
  go_wp2_with fail
  rw [HT.out]
  refine bodyPost_ret (v := .agg #[.bool b8, .slice A8 n8 c8, .slice A'8 n'8 c'8, .bool x8]) (by simp [results, Tryz.results20, go_sem, *] <;> first | rfl | exact ⟨rfl, rfl⟩) rfl ?_
  have kp := (Kp.refl w6)
  exact ⟨b8, A8, n8, c8, A'8, n'8, c'8, x8, rfl, (h8.keep kp).mono (by omega), bw6⟩
set_option maxRecDepth 100000 in
set_option maxHeartbeats 4000000 in
/-- linkworkref12.Between -/
theorem u_Between_p (w : World) (b : Bool) (A : Option Addr) (n c : Nat) (D : Option Addr) (m e : Nat) (x : Bool) (t : TN) (k : Nat) (h : TK w b A n c D m e x t k) (b' : Bool) (A' : Option Addr) (n' c' : Nat) (D' : Option Addr) (m' e' : Nat) (x' : Bool) (t' : TN) (k' : Nat) (h' : TK w b' A' n' c' D' m' e' x' t' k') (h0 : 0 < k) (hk : k ≤ 50000) (h0' : 0 < k') (hk' : k' ≤ 50000) (hh : (tadd t' (tneg t)).h = false) (s : Int) (hs : (tadd t' (tneg t)).t.num.sign = s) (hp : 0 < (tadd t' (tneg t)).t) (hp2 : 0 < s) :
    Calls Tryz.prog 20 #[.agg #[.bool b, .slice A n c, .slice D m e, .bool x], .agg #[.bool b', .slice A' n' c', .slice D' m' e', .bool x']] w (RetT w (tbetween t t') (6 * k + 4 * k' + 20)) := by
  have HT := Lib.hid (show tbetween t t' = tadd t ⟨(tadd t' (tneg t)).t / ((2 : Int) : Rat), false⟩ by unfold tbetween; rw [if_neg (by rw [hh]; decide), if_pos hp]; rfl)
  have HH := Lib.hid hh
  have HS := Lib.hid hs
  have e0 : decide (s > 0) = true := by simp; omega
  clear hh hs hp hp2
  go_enter Tryz.func20, Tryz.ntmps20
  go_wp2_with fail
  have p1 : Kp w (((w.alloc (.cells #[.bool b, .slice A n c, .slice D m e, .bool x] 26)).alloc (.cells #[.bool b', .slice A' n' c', .slice D' m' e', .bool x'] 26)).alloc (.cells #[.bool false, .slice none 0 0, .slice none 0 0, .bool false] 26)) := ((((Kp.refl w).alloc (.cells #[.bool b, .slice A n c, .slice D m e, .bool x] 26)).alloc (.cells #[.bool b', .slice A' n' c', .slice D' m' e', .bool x'] 26)).alloc (.cells #[.bool false, .slice none 0 0, .slice none 0 0, .bool false] 26))
  have bw1 : Below w.heap.size w (((w.alloc (.cells #[.bool b, .slice A n c, .slice D m e, .bool x] 26)).alloc (.cells #[.bool b', .slice A' n' c', .slice D' m' e', .bool x'] 26)).alloc (.cells #[.bool false, .slice none 0 0, .slice none 0 0, .bool false] 26)) := ((((brefl w).alloc (by first | omega | (simp <;> omega)) (.cells #[.bool b, .slice A n c, .slice D m e, .bool x] 26)).alloc (by first | omega | (simp <;> omega)) (.cells #[.bool b', .slice A' n' c', .slice D' m' e', .bool x'] 26)).alloc (by first | omega | (simp <;> omega)) (.cells #[.bool false, .slice none 0 0, .slice none 0 0, .bool false] 26))
  have x1_0 : Blk (((w.alloc (.cells #[.bool b, .slice A n c, .slice D m e, .bool x] 26)).alloc (.cells #[.bool b', .slice A' n' c', .slice D' m' e', .bool x'] 26)).alloc (.cells #[.bool false, .slice none 0 0, .slice none 0 0, .bool false] 26)) (w.heap.size) 26 #[.bool b, .slice A n c, .slice D m e, .bool x] := (((blkAt _ _ _ (by simp)).alloc (.cells #[.bool b', .slice A' n' c', .slice D' m' e', .bool x'] 26)).alloc (.cells #[.bool false, .slice none 0 0, .slice none 0 0, .bool false] 26))
  have x1_1 : Blk (((w.alloc (.cells #[.bool b, .slice A n c, .slice D m e, .bool x] 26)).alloc (.cells #[.bool b', .slice A' n' c', .slice D' m' e', .bool x'] 26)).alloc (.cells #[.bool false, .slice none 0 0, .slice none 0 0, .bool false] 26)) (w.heap.size + 1) 26 #[.bool b', .slice A' n' c', .slice D' m' e', .bool x'] := ((blkAt _ _ _ (by simp)).alloc (.cells #[.bool false, .slice none 0 0, .slice none 0 0, .bool false] 26))
  have x1_2 : Blk (((w.alloc (.cells #[.bool b, .slice A n c, .slice D m e, .bool x] 26)).alloc (.cells #[.bool b', .slice A' n' c', .slice D' m' e', .bool x'] 26)).alloc (.cells #[.bool false, .slice none 0 0, .slice none 0 0, .bool false] 26)) (w.heap.size + 1 + 1) 26 #[.bool false, .slice none 0 0, .slice none 0 0, .bool false] := (blkAt _ _ _ (by simp))
  have lw1 : w.heap.size + 3 ≤ (((w.alloc (.cells #[.bool b, .slice A n c, .slice D m e, .bool x] 26)).alloc (.cells #[.bool b', .slice A' n' c', .slice D' m' e', .bool x'] 26)).alloc (.cells #[.bool false, .slice none 0 0, .slice none 0 0, .bool false] 26)).heap.size := by simp
  generalize hE1 : (((w.alloc (.cells #[.bool b, .slice A n c, .slice D m e, .bool x] 26)).alloc (.cells #[.bool b', .slice A' n' c', .slice D' m' e', .bool x'] 26)).alloc (.cells #[.bool false, .slice none 0 0, .slice none 0 0, .bool false] 26)) = w1 at p1 bw1 lw1 x1_0 x1_1 x1_2 ⊢
  clear hE1
  replace h := h.keep p1
  replace h' := h'.keep p1
  obtain ⟨cx1_0_0, cx1_0_1, cx1_0_2, cx1_0_3⟩ := x1_0.c4
  obtain ⟨lx1_0_0, lx1_0_1, lx1_0_2, lx1_0_3⟩ := lts0 x1_0.lt
  obtain ⟨cx1_1_0, cx1_1_1, cx1_1_2, cx1_1_3⟩ := x1_1.c4
  obtain ⟨lx1_1_0, lx1_1_1, lx1_1_2, lx1_1_3⟩ := lts1 x1_1.lt
  refine wp_region_lin (B := w.heap.size) (fr := fun xf => ⟨List.toArray (.agg #[.bool b, .slice A n c, .slice D m e, .bool x] :: .agg #[.bool b', .slice A' n' c', .slice D' m' e', .bool x'] :: .pointer (some ⟨w.heap.size, 0, none⟩) :: .pointer (some ⟨w.heap.size + 1, 0, none⟩) :: .pointer (some ⟨w.heap.size + 1 + 1, 0, none⟩) :: xf 4 :: xf 0 :: xf 1 :: xf 2 :: xf 3 :: undef :: undef :: undef :: undef :: undef :: undef :: undef :: undef :: undef :: undef :: undef :: undef :: undef :: undef :: undef :: undef :: undef :: undef :: undef :: undef :: undef :: undef :: []), []⟩) (R := fun i => List.getD ((PEq (.agg #[.bool b', .slice A' n' c', .slice D' m' e', .bool x'])) :: (PEq (.agg #[.bool b, .slice A n c, .slice D m e, .bool x])) :: (VT (tneg ((t))) ((k))) :: (VT (tadd ((t')) ((tneg ((t))))) (2 * ((k')) + 2 * (((k))) + 3)) :: PAny :: PAny :: []) i (fun _ _ => True)) (es := [⟨4, 5, 26, #[.bool false, .slice none 0 0, .slice none 0 0, .bool false], CT (tadd ((t')) ((tneg ((t))))) (2 * ((k')) + 2 * (((k))) + 3)⟩]) (ow := [⟨w.heap.size, 6, 0, 26, #[.bool b, .slice A n c, .slice D m e, .bool x], CAny⟩, ⟨w.heap.size + 1, 6, 0, 26, #[.bool b', .slice A' n' c', .slice D' m' e', .bool x'], CAny⟩, ⟨w.heap.size + 1 + 1, 6, 0, 26, #[.bool false, .slice none 0 0, .slice none 0 0, .bool false], CAny⟩]) (x0 := (fun _ => undef)) (by kernel_rfl)
    (each_of ⟨fun _ _ => rfl, fun _ _ => rfl, fun _ _ => rfl, fun _ _ => rfl, fun _ _ => rfl, fun _ _ => rfl, trivial⟩) (each_of (acyc_from _ 0 (by kernel_rfl))) (AllStab.get _ ⟨stEq _, stEq _, stT _ _, stT _ _, stAny, stAny, trivial⟩)
    (List.forall_mem_cons.2 ⟨scT _ _, fun _ h => nomatch h⟩) (List.forall_mem_cons.2 ⟨scAny, List.forall_mem_cons.2 ⟨scAny, List.forall_mem_cons.2 ⟨scAny, fun _ h => nomatch h⟩⟩⟩) (List.forall_mem_cons.2 ⟨⟨by simp, by simp⟩, fun _ h => nomatch h⟩) bw1.size
    (List.forall_mem_cons.2 ⟨⟨x1_0, by show w.heap.size ≤ w.heap.size; omega⟩, List.forall_mem_cons.2 ⟨⟨x1_1, by show w.heap.size ≤ w.heap.size + 1; omega⟩, List.forall_mem_cons.2 ⟨⟨x1_2, by show w.heap.size ≤ w.heap.size + 1 + 1; omega⟩, fun _ h => nomatch h⟩⟩⟩) (ownDist (by simp <;> omega))
    (each_of ⟨?_, ?_, ?_, ?_, ?_, ?_, trivial⟩) ?_
  · exact .inl ⟨by simp, by simp, fun xf wq hk hbl hd K hK => by
      have y : Blk wq (w.heap.size + 1) 26 #[.bool b', .slice A' n' c', .slice D' m' e', .bool x'] := hbl _ (List.Mem.tail _ (List.Mem.head _)) (by simp [Region.binds])
      obtain ⟨hcl0, hcl1, hcl2, hcl3⟩ := y.c4
      (try dsimp only)
      go_simp
      exact hK.out (.agg #[.bool b', .slice A' n' c', .slice D' m' e', .bool x']) _ rfl (brefl _)⟩
  · exact .inl ⟨by simp, by simp, fun xf wq hk hbl hd K hK => by
      have y : Blk wq (w.heap.size) 26 #[.bool b, .slice A n c, .slice D m e, .bool x] := hbl _ (List.Mem.head _) (by simp [Region.binds])
      obtain ⟨hcl0, hcl1, hcl2, hcl3⟩ := y.c4
      (try dsimp only)
      go_simp
      exact hK.out (.agg #[.bool b, .slice A n c, .slice D m e, .bool x]) _ rfl (brefl _)⟩
  · exact .inl ⟨by simp, by simp, fun xf wq hk hbl hd K hK => by
      have dq1 : xf 1 = .agg #[.bool b, .slice A n c, .slice D m e, .bool x] := hd ⟨1, .data⟩ (by simp) rfl
      (try dsimp only); (try simp only [dq1])
      go_simp
      go_at_call 31
      (with_reducible refine (u_Neg _ b A n c D m e x (t) (k) ?_ ?_ ?_).mono ?_); (exact (h.keep hk)); (first | omega | decide | assumption); (first | omega | decide | assumption); rintro e wr ⟨b3, A3, n3, c3, A'3, n'3, c'3, x3, rfl, h3, hbr⟩
      have hz := hK.out _ _ ⟨b3, A3, n3, c3, A'3, n'3, c'3, x3, rfl, h3⟩ hbr
      simp only [dq1] at hz
      exact hz⟩
  · exact .inl ⟨by simp, by simp, fun xf wq hk hbl hd K hK => by
      have dq0 : xf 0 = .agg #[.bool b', .slice A' n' c', .slice D' m' e', .bool x'] := hd ⟨0, .data⟩ (by simp) rfl
      obtain ⟨b3, A3, n3, c3, A'3, n'3, c'3, x3, dq2, h3⟩ : VT (tneg ((t))) ((k)) (xf 2) wq := hd ⟨2, .data⟩ (by simp) rfl
      (try dsimp only); (try simp only [dq0, dq2])
      go_simp
      go_at_call 18
      (with_reducible refine (u_Add _ b' A' n' c' D' m' e' x' (t') (k') ?_ b3 A3 n3 c3 A'3 n'3 c'3 x3 (tneg ((t))) ((k)) ?_ ?_ ?_ ?_ ?_).mono ?_); (exact (h'.keep hk)); (exact h3.tk); (first | omega | decide | assumption); (first | omega | decide | assumption); (first | omega | decide | assumption); (first | omega | decide | assumption); rintro e wr ⟨b4, A4, n4, c4, A'4, n'4, c'4, x4, rfl, h4, hbr⟩
      have hz := hK.out _ _ ⟨b4, A4, n4, c4, A'4, n'4, c'4, x4, rfl, h4⟩ hbr
      simp only [dq0, dq2] at hz
      exact hz⟩
  · exact .inr (.inl ⟨⟨4, 5, 26, #[.bool false, .slice none 0 0, .slice none 0 0, .bool false], CT (tadd ((t')) ((tneg ((t))))) (2 * ((k')) + 2 * (((k))) + 3)⟩, by simp, rfl, by simp, by simp, by simp, fun _ _ => True.intro, fun xf wq K hK => by
      (try dsimp only)
      go_simp
      exact hK.out⟩)
  · exact .inr (.inr (.inl ⟨⟨4, 5, 26, #[.bool false, .slice none 0 0, .slice none 0 0, .bool false], CT (tadd ((t')) ((tneg ((t))))) (2 * ((k')) + 2 * (((k))) + 3)⟩, by simp, rfl, by simp, by simp, by simp, by simp, (show KT 26 = false by decide), fun _ _ => True.intro, ⟨⟨4, .data⟩, by simp, rfl, rfl⟩, fun xf wq g hx hblk hd => by
      obtain ⟨b4, A4, n4, c4, A'4, n'4, c'4, x4, dq3, h4⟩ : VT (tadd ((t')) ((tneg ((t))))) (2 * ((k')) + 2 * (((k))) + 3) (xf 3) wq := hd ⟨3, .data⟩ (by simp) rfl
      dsimp only at hx hblk
      refine ⟨[.bool b4, .slice A4 n4 c4, .slice A'4 n'4 c'4, .bool x4], fun w' hk => ⟨b4, A4, n4, c4, A'4, n'4, c'4, x4, rfl, h4.keep hk⟩, fun K hK => ?_⟩
      have hc0 : wq.cell? ⟨g, 0, none⟩ = some (.bool false) := hblk.cell 0
      have hc1 : wq.cell? ⟨g, 1, none⟩ = some (.slice none 0 0) := hblk.cell 1
      have hc2 : wq.cell? ⟨g, 2, none⟩ = some (.slice none 0 0) := hblk.cell 2
      have hc3 : wq.cell? ⟨g, 3, none⟩ = some (.bool false) := hblk.cell 3
      have hf0 : wq.frozen? ⟨g, 0, none⟩ = false := hblk.frozen 0
      have hf1 : wq.frozen? ⟨g, 1, none⟩ = false := hblk.frozen 1
      have hf2 : wq.frozen? ⟨g, 2, none⟩ = false := hblk.frozen 2
      have hf3 : wq.frozen? ⟨g, 3, none⟩ = false := hblk.frozen 3
      (try dsimp only)
      simp only [hx, dq3]
      go_simp
      have hz := hK.out undef
      simp only [hx, dq3] at hz
      exact hz⟩))
  clear cx1_0_0 cx1_0_1 cx1_0_2 cx1_0_3 lx1_0_0 lx1_0_1 lx1_0_2 lx1_0_3 cx1_1_0 cx1_1_1 cx1_1_2 cx1_1_3 lx1_1_0 lx1_1_1 lx1_1_2 lx1_1_3
  intro y2 w2 kq2 hbl2 lw2 how hrr hfl hds
  replace h := h.keep kq2
  replace h' := h'.keep kq2
  obtain ⟨_, z2_0, ez, _⟩ := how _ (List.Mem.head _)
  obtain rfl := ez (by simp)
  dsimp only at z2_0
  obtain ⟨_, z2_1, ez, _⟩ := how _ (List.Mem.tail _ (List.Mem.head _))
  obtain rfl := ez (by simp)
  dsimp only at z2_1
  obtain ⟨_, z2_2, ez, _⟩ := how _ (List.Mem.tail _ (List.Mem.tail _ (List.Mem.head _)))
  obtain rfl := ez (by simp)
  dsimp only at z2_2
  obtain ⟨g5_2, _, eg5_2, Gg5_2, xg5_2, ⟨b4, A4, n4, c4, A'4, n'4, c'4, x4, rfl, h4⟩⟩ := hfl _ (List.Mem.head _)
  dsimp only at eg5_2 Gg5_2 xg5_2
  have lgg5_2 : g5_2 < w2.heap.size := xg5_2.lt
  (try dsimp only)
  simp only [eg5_2]
  clear hrr hfl how hds eg5_2
  clear x1_0 x1_1 x1_2
  have bw2 : Below w.heap.size w w2 := bw1.trans hbl2
  clear bw1
  have cxg5_2_0 : w2.cell? ⟨g5_2, 0, none⟩ = some (.bool b4) := xg5_2.cell 0
  have cxg5_2_1 : w2.cell? ⟨g5_2, 1, none⟩ = some (.slice A4 n4 c4) := xg5_2.cell 1
  have cxg5_2_2 : w2.cell? ⟨g5_2, 2, none⟩ = some (.slice A'4 n'4 c'4) := xg5_2.cell 2
  have cxg5_2_3 : w2.cell? ⟨g5_2, 3, none⟩ = some (.bool x4) := xg5_2.cell 3
  obtain ⟨lxg5_2_0, lxg5_2_1, lxg5_2_2, lxg5_2_3⟩ := lts0 xg5_2.lt
  obtain rfl : x4 = false := h4.2.1.trans HH.out
  go_wp2_with fail
  (with_reducible refine (g_sign_e _ b4 A4 n4 c4 A'4 n'4 c'4 ((tadd ((t')) ((tneg ((t))))).t) (2 * ((k')) + 2 * (((k))) + 3) ?_ (s) ?_ ?_ ?_).mono ?_); (exact h4.qz); (exact HS.out); (first | omega | decide | assumption); (first | omega | decide | assumption); rintro e w6 ⟨rfl, hb6⟩
  clear cxg5_2_0 cxg5_2_1 cxg5_2_2 cxg5_2_3 lxg5_2_0 lxg5_2_1 lxg5_2_2 lxg5_2_3
  have q6 : Below w2.heap.size w2 w6 := hb6
  replace h := h.belw q6
  replace h' := h'.belw q6
  replace h4 := h4.belw q6
  replace z2_0 := z2_0.below q6 z2_0.lt
  replace z2_1 := z2_1.below q6 z2_1.lt
  replace z2_2 := z2_2.below q6 z2_2.lt
  replace xg5_2 := xg5_2.below q6 xg5_2.lt
  have bw6 : Below w.heap.size w w6 := bw2.trans (q6.mono bw2.size)
  have lw6 : w2.heap.size ≤ w6.heap.size := q6.size
  clear hb6 q6 bw2
  obtain ⟨cz2_0_0, cz2_0_1, cz2_0_2, cz2_0_3⟩ := z2_0.c4
  obtain ⟨lz2_0_0, lz2_0_1, lz2_0_2, lz2_0_3⟩ := lts0 z2_0.lt
  obtain ⟨cxg5_2_0, cxg5_2_1, cxg5_2_2, cxg5_2_3⟩ := xg5_2.c4
  obtain ⟨lxg5_2_0, lxg5_2_1, lxg5_2_2, lxg5_2_3⟩ := lts0 xg5_2.lt
  go_wp2_with fail
  refine wp_region_lin (B := w.heap.size) (fr := fun xf => ⟨List.toArray (.agg #[.bool b, .slice A n c, .slice D m e, .bool x] :: .agg #[.bool b', .slice A' n' c', .slice D' m' e', .bool x'] :: .pointer (some ⟨w.heap.size, 0, none⟩) :: .pointer (some ⟨w.heap.size + 1, 0, none⟩) :: .pointer (some ⟨w.heap.size + 1 + 1, 0, none⟩) :: .pointer (some ⟨g5_2, 0, none⟩) :: y2 0 :: y2 1 :: y2 2 :: y2 3 :: .bool false :: .pointer (some ⟨g5_2, 3, none⟩) :: .bool false :: undef :: undef :: undef :: undef :: _ :: .pointer (some ⟨g5_2, 0, none⟩) :: .agg #[.bool b4, .slice A4 n4 c4, .slice A'4 n'4 c'4] :: .int .i64 (s) :: _ :: xf 0 :: xf 1 :: xf 2 :: xf 3 :: xf 4 :: xf 5 :: xf 6 :: undef :: undef :: undef :: []), []⟩) (R := fun i => List.getD ((PEq (.agg #[.bool b, .slice A n c, .slice D m e, .bool x])) :: (PEq (.pointer (some ⟨g5_2, 0, none⟩))) :: (PEq (.agg #[.bool b4, .slice A4 n4 c4, .slice A'4 n'4 c'4])) :: (VQ (((2 : Int) : Rat)) (1)) :: (VQ (((tadd ((t')) ((tneg ((t))))).t) / (((2 : Int) : Rat))) ((2 * ((k')) + 2 * (((k))) + 3) + (1))) :: (VT ⟨((tadd ((t')) ((tneg ((t))))).t) / (((2 : Int) : Rat)), false⟩ ((2 * ((k')) + 2 * (((k))) + 3) + (1))) :: (VT (tadd ((t)) ((⟨((tadd ((t')) ((tneg ((t))))).t) / (((2 : Int) : Rat)), false⟩))) (2 * ((k)) + 2 * (((2 * ((k')) + 2 * (((k))) + 3) + (1))) + 3)) :: PAny :: []) i (fun _ _ => True)) (es := []) (ow := [⟨w.heap.size, 8, 0, 26, #[.bool b, .slice A n c, .slice D m e, .bool x], CAny⟩, ⟨w.heap.size + 1, 8, 0, 26, #[.bool b', .slice A' n' c', .slice D' m' e', .bool x'], CAny⟩, ⟨w.heap.size + 1 + 1, 7, 0, 26, #[.bool false, .slice none 0 0, .slice none 0 0, .bool false], CT (tadd ((t)) ((⟨((tadd ((t')) ((tneg ((t))))).t) / (((2 : Int) : Rat)), false⟩))) (2 * ((k)) + 2 * (((2 * ((k')) + 2 * (((k))) + 3) + (1))) + 3)⟩, ⟨g5_2, 8, 0, 26, #[.bool b4, .slice A4 n4 c4, .slice A'4 n'4 c'4, .bool false], CAny⟩]) (x0 := (fun _ => undef)) (by kernel_rfl)
    (each_of ⟨fun _ _ => rfl, fun _ _ => rfl, fun _ _ => rfl, fun _ _ => rfl, fun _ _ => rfl, fun _ _ => rfl, fun _ _ => rfl, fun _ _ => rfl, trivial⟩) (each_of (acyc_from _ 0 (by kernel_rfl))) (AllStab.get _ ⟨stEq _, stEq _, stEq _, stQ _ _, stQ _ _, stT _ _, stT _ _, stAny, trivial⟩)
    (fun _ h => nomatch h) (List.forall_mem_cons.2 ⟨scAny, List.forall_mem_cons.2 ⟨scAny, List.forall_mem_cons.2 ⟨scT _ _, List.forall_mem_cons.2 ⟨scAny, fun _ h => nomatch h⟩⟩⟩⟩) (fun _ h => nomatch h) bw6.size
    (List.forall_mem_cons.2 ⟨⟨z2_0, by show w.heap.size ≤ w.heap.size; omega⟩, List.forall_mem_cons.2 ⟨⟨z2_1, by show w.heap.size ≤ w.heap.size + 1; omega⟩, List.forall_mem_cons.2 ⟨⟨z2_2, by show w.heap.size ≤ w.heap.size + 1 + 1; omega⟩, List.forall_mem_cons.2 ⟨⟨xg5_2, by show w.heap.size ≤ g5_2; omega⟩, fun _ h => nomatch h⟩⟩⟩⟩) (ownDist (by simp <;> omega))
    (each_of ⟨?_, ?_, ?_, ?_, ?_, ?_, ?_, ?_, trivial⟩) ?_
  · exact .inl ⟨by simp, by simp, fun xf wq hk hbl hd K hK => by
      have y : Blk wq (w.heap.size) 26 #[.bool b, .slice A n c, .slice D m e, .bool x] := hbl _ (List.Mem.head _) (by simp [Region.binds])
      obtain ⟨hcl0, hcl1, hcl2, hcl3⟩ := y.c4
      (try dsimp only)
      go_simp
      exact hK.out (.agg #[.bool b, .slice A n c, .slice D m e, .bool x]) _ rfl (brefl _)⟩
  · exact .inl ⟨by simp, by simp, fun xf wq hk hbl hd K hK => by
      (try dsimp only)
      go_simp
      exact hK.out (.pointer (some ⟨g5_2, 0, none⟩)) _ rfl (brefl _)⟩
  · exact .inl ⟨by simp, by simp, fun xf wq hk hbl hd K hK => by
      have dq1 : xf 1 = .pointer (some ⟨g5_2, 0, none⟩) := hd ⟨1, .data⟩ (by simp) rfl
      have y : Blk wq (g5_2) 26 #[.bool b4, .slice A4 n4 c4, .slice A'4 n'4 c'4, .bool false] := hbl _ (List.Mem.tail _ (List.Mem.tail _ (List.Mem.tail _ (List.Mem.head _)))) (by simp [Region.binds])
      obtain ⟨hcl0, hcl1, hcl2, hcl3⟩ := y.c4
      (try dsimp only); (try simp only [dq1])
      go_simp
      have hz := hK.out (.agg #[.bool b4, .slice A4 n4 c4, .slice A'4 n'4 c'4]) _ rfl (brefl _)
      simp only [dq1] at hz
      exact hz⟩
  · exact .inl ⟨by simp, by simp, fun xf wq hk hbl hd K hK => by
      (try dsimp only)
      go_simp
      go_at_call 50
      (with_reducible refine (g_of _ (2) ?_ ?_).mono ?_); (first | omega | decide | assumption); (first | omega | decide | assumption); rintro e wr ⟨b8, A8, n8, c8, A'8, n'8, c'8, rfl, h8, hbr⟩
      exact hK.out _ _ ⟨b8, A8, n8, c8, A'8, n'8, c'8, rfl, h8⟩ hbr⟩
  · exact .inl ⟨by simp, by simp, fun xf wq hk hbl hd K hK => by
      have dq2 : xf 2 = .agg #[.bool b4, .slice A4 n4 c4, .slice A'4 n'4 c'4] := hd ⟨2, .data⟩ (by simp) rfl
      obtain ⟨b8, A8, n8, c8, A'8, n'8, c'8, dq3, h8⟩ : VQ (((2 : Int) : Rat)) (1) (xf 3) wq := hd ⟨3, .data⟩ (by simp) rfl
      (try dsimp only); (try simp only [dq2, dq3])
      go_simp
      go_at_call 47
      (with_reducible refine (u_over _ b4 A4 n4 c4 A'4 n'4 c'4 ((tadd ((t')) ((tneg ((t))))).t) (2 * ((k')) + 2 * (((k))) + 3) ?_ b8 A8 n8 c8 A'8 n'8 c'8 (((2 : Int) : Rat)) (1) ?_ ?_ ?_ ?_ ?_ ?_).mono ?_); (exact (h4.keep hk).qz); (exact h8.qz); (first | omega | decide | assumption); (first | omega | decide | assumption); (first | omega | decide | assumption); (first | omega | decide | assumption); (decide); rintro e wr ⟨b9, A9, n9, c9, A'9, n'9, c'9, rfl, h9, hbr⟩
      have hz := hK.out _ _ ⟨b9, A9, n9, c9, A'9, n'9, c'9, rfl, h9⟩ hbr
      simp only [dq2, dq3] at hz
      exact hz⟩
  · exact .inl ⟨by simp, by simp, fun xf wq hk hbl hd K hK => by
      obtain ⟨b9, A9, n9, c9, A'9, n'9, c'9, dq4, h9⟩ : VQ (((tadd ((t')) ((tneg ((t))))).t) / (((2 : Int) : Rat))) ((2 * ((k')) + 2 * (((k))) + 3) + (1)) (xf 4) wq := hd ⟨4, .data⟩ (by simp) rfl
      (try dsimp only); (try simp only [dq4])
      go_simp
      have hz := hK.out _ _ ⟨b9, A9, n9, c9, A'9, n'9, c'9, false, rfl, TV.frac h9⟩ (brefl _)
      simp only [dq4] at hz
      exact hz⟩
  · exact .inl ⟨by simp, by simp, fun xf wq hk hbl hd K hK => by
      have dq0 : xf 0 = .agg #[.bool b, .slice A n c, .slice D m e, .bool x] := hd ⟨0, .data⟩ (by simp) rfl
      obtain ⟨b9, A9, n9, c9, A'9, n'9, c'9, xx, dq5, hB7_5⟩ : VT ⟨((tadd ((t')) ((tneg ((t))))).t) / (((2 : Int) : Rat)), false⟩ ((2 * ((k')) + 2 * (((k))) + 3) + (1)) (xf 5) wq := hd ⟨5, .data⟩ (by simp) rfl
      (try dsimp only); (try simp only [dq0, dq5])
      go_simp
      go_at_call 18
      (with_reducible refine (u_Add _ b A n c D m e x (t) (k) ?_ b9 A9 n9 c9 A'9 n'9 c'9 xx (⟨((tadd ((t')) ((tneg ((t))))).t) / (((2 : Int) : Rat)), false⟩) ((2 * ((k')) + 2 * (((k))) + 3) + (1)) ?_ ?_ ?_ ?_ ?_).mono ?_); (exact (h.keep hk)); (exact hB7_5.tk); (first | omega | decide | assumption); (first | omega | decide | assumption); (first | omega | decide | assumption); (first | omega | decide | assumption); rintro e wr ⟨b10, A10, n10, c10, A'10, n'10, c'10, x10, rfl, h10, hbr⟩
      have hz := hK.out _ _ ⟨b10, A10, n10, c10, A'10, n'10, c'10, x10, rfl, h10⟩ hbr
      simp only [dq0, dq5] at hz
      exact hz⟩
  · exact .inr (.inr (.inr ⟨⟨w.heap.size + 1 + 1, 7, 0, 26, #[.bool false, .slice none 0 0, .slice none 0 0, .bool false], CT (tadd ((t)) ((⟨((tadd ((t')) ((tneg ((t))))).t) / (((2 : Int) : Rat)), false⟩))) (2 * ((k)) + 2 * (((2 * ((k')) + 2 * (((k))) + 3) + (1))) + 3)⟩, by simp, rfl, by simp, by simp, (show KT 26 = false by decide), fun _ _ => True.intro, fun xf wq hblk hd => by
      obtain ⟨b10, A10, n10, c10, A'10, n'10, c'10, x10, dq6, h10⟩ : VT (tadd ((t)) ((⟨((tadd ((t')) ((tneg ((t))))).t) / (((2 : Int) : Rat)), false⟩))) (2 * ((k)) + 2 * (((2 * ((k')) + 2 * (((k))) + 3) + (1))) + 3) (xf 6) wq := hd ⟨6, .data⟩ (by simp) rfl
      dsimp only at hblk
      refine ⟨[.bool b10, .slice A10 n10 c10, .slice A'10 n'10 c'10, .bool x10], fun w' hk => ⟨b10, A10, n10, c10, A'10, n'10, c'10, x10, rfl, h10.keep hk⟩, fun K hK => ?_⟩
      have hc0 : wq.cell? ⟨w.heap.size + 1 + 1, 0, none⟩ = some (.bool false) := hblk.cell 0
      have hc1 : wq.cell? ⟨w.heap.size + 1 + 1, 1, none⟩ = some (.slice none 0 0) := hblk.cell 1
      have hc2 : wq.cell? ⟨w.heap.size + 1 + 1, 2, none⟩ = some (.slice none 0 0) := hblk.cell 2
      have hc3 : wq.cell? ⟨w.heap.size + 1 + 1, 3, none⟩ = some (.bool false) := hblk.cell 3
      have hf0 : wq.frozen? ⟨w.heap.size + 1 + 1, 0, none⟩ = false := hblk.frozen 0
      have hf1 : wq.frozen? ⟨w.heap.size + 1 + 1, 1, none⟩ = false := hblk.frozen 1
      have hf2 : wq.frozen? ⟨w.heap.size + 1 + 1, 2, none⟩ = false := hblk.frozen 2
      have hf3 : wq.frozen? ⟨w.heap.size + 1 + 1, 3, none⟩ = false := hblk.frozen 3
      (try dsimp only)
      simp only [dq6]
      go_simp
      have hz := hK.out undef
      simp only [dq6] at hz
      exact hz⟩))
  clear cz2_0_0 cz2_0_1 cz2_0_2 cz2_0_3 lz2_0_0 lz2_0_1 lz2_0_2 lz2_0_3 cxg5_2_0 cxg5_2_1 cxg5_2_2 cxg5_2_3 lxg5_2_0 lxg5_2_1 lxg5_2_2 lxg5_2_3
  intro y7 w7 kq7 hbl7 lw7 how hrr hfl hds
  replace h := h.keep kq7
  replace h' := h'.keep kq7
  replace h4 := h4.keep kq7
  obtain ⟨_, z7_0, ez, _⟩ := how _ (List.Mem.head _)
  obtain rfl := ez (by simp)
  dsimp only at z7_0
  obtain ⟨_, z7_1, ez, _⟩ := how _ (List.Mem.tail _ (List.Mem.head _))
  obtain rfl := ez (by simp)
  dsimp only at z7_1
  obtain ⟨_, z7_2, _, ez⟩ := how _ (List.Mem.tail _ (List.Mem.tail _ (List.Mem.head _)))
  obtain ⟨b10, A10, n10, c10, A'10, n'10, c'10, x10, rfl, h10⟩ := ez (by simp)
  dsimp only at z7_2
  obtain ⟨_, z7_3, ez, _⟩ := how _ (List.Mem.tail _ (List.Mem.tail _ (List.Mem.tail _ (List.Mem.head _))))
  obtain rfl := ez (by simp)
  dsimp only at z7_3
  (try dsimp only)
  clear hrr hfl how hds 
  clear z2_0 z2_1 z2_2 xg5_2
  have bw7 : Below w.heap.size w w7 := bw6.trans hbl7
  clear bw6
  have cz7_2_0 : w7.cell? ⟨w.heap.size + 1 + 1, 0, none⟩ = some (.bool b10) := z7_2.cell 0
  have cz7_2_1 : w7.cell? ⟨w.heap.size + 1 + 1, 1, none⟩ = some (.slice A10 n10 c10) := z7_2.cell 1
  have cz7_2_2 : w7.cell? ⟨w.heap.size + 1 + 1, 2, none⟩ = some (.slice A'10 n'10 c'10) := z7_2.cell 2
  have cz7_2_3 : w7.cell? ⟨w.heap.size + 1 + 1, 3, none⟩ = some (.bool x10) := z7_2.cell 3
  obtain ⟨lz7_2_0, lz7_2_1, lz7_2_2, lz7_2_3⟩ := lts2 z7_2.lt
  go_wp2_with fail
  rw [HT.out]
  refine bodyPost_ret (v := .agg #[.bool b10, .slice A10 n10 c10, .slice A'10 n'10 c'10, .bool x10]) (by simp [results, Tryz.results20, go_sem, *] <;> first | rfl | exact ⟨rfl, rfl⟩) rfl ?_
  have kp := (Kp.refl w7)
  exact ⟨b10, A10, n10, c10, A'10, n'10, c'10, x10, rfl, (h10.keep kp).mono (by omega), bw7⟩
set_option maxRecDepth 100000 in
set_option maxHeartbeats 4000000 in
/-- linkworkref12.Between -/
theorem u_Between_n (w : World) (b : Bool) (A : Option Addr) (n c : Nat) (D : Option Addr) (m e : Nat) (x : Bool) (t : TN) (k : Nat) (h : TK w b A n c D m e x t k) (b' : Bool) (A' : Option Addr) (n' c' : Nat) (D' : Option Addr) (m' e' : Nat) (x' : Bool) (t' : TN) (k' : Nat) (h' : TK w b' A' n' c' D' m' e' x' t' k') (h0 : 0 < k) (hk : k ≤ 50000) (h0' : 0 < k') (hk' : k' ≤ 50000) (hh : (tadd t' (tneg t)).h = false) (s : Int) (hs : (tadd t' (tneg t)).t.num.sign = s) (hp : ¬ 0 < (tadd t' (tneg t)).t) (hp2 : ¬ 0 < s) :
    Calls Tryz.prog 20 #[.agg #[.bool b, .slice A n c, .slice D m e, .bool x], .agg #[.bool b', .slice A' n' c', .slice D' m' e', .bool x']] w (RetT w (tbetween t t') (6 * k + 4 * k' + 20)) := by
  have HT := Lib.hid (show tbetween t t' = tadd t thalf by unfold tbetween; rw [if_neg (by rw [hh]; decide), if_neg hp])
  have HH := Lib.hid hh
  have HS := Lib.hid hs
  have e0 : decide (s > 0) = false := by simp; omega
  clear hh hs hp hp2
  go_enter Tryz.func20, Tryz.ntmps20
  go_wp2_with fail
  have p1 : Kp w (((w.alloc (.cells #[.bool b, .slice A n c, .slice D m e, .bool x] 26)).alloc (.cells #[.bool b', .slice A' n' c', .slice D' m' e', .bool x'] 26)).alloc (.cells #[.bool false, .slice none 0 0, .slice none 0 0, .bool false] 26)) := ((((Kp.refl w).alloc (.cells #[.bool b, .slice A n c, .slice D m e, .bool x] 26)).alloc (.cells #[.bool b', .slice A' n' c', .slice D' m' e', .bool x'] 26)).alloc (.cells #[.bool false, .slice none 0 0, .slice none 0 0, .bool false] 26))
  have bw1 : Below w.heap.size w (((w.alloc (.cells #[.bool b, .slice A n c, .slice D m e, .bool x] 26)).alloc (.cells #[.bool b', .slice A' n' c', .slice D' m' e', .bool x'] 26)).alloc (.cells #[.bool false, .slice none 0 0, .slice none 0 0, .bool false] 26)) := ((((brefl w).alloc (by first | omega | (simp <;> omega)) (.cells #[.bool b, .slice A n c, .slice D m e, .bool x] 26)).alloc (by first | omega | (simp <;> omega)) (.cells #[.bool b', .slice A' n' c', .slice D' m' e', .bool x'] 26)).alloc (by first | omega | (simp <;> omega)) (.cells #[.bool false, .slice none 0 0, .slice none 0 0, .bool false] 26))
  have x1_0 : Blk (((w.alloc (.cells #[.bool b, .slice A n c, .slice D m e, .bool x] 26)).alloc (.cells #[.bool b', .slice A' n' c', .slice D' m' e', .bool x'] 26)).alloc (.cells #[.bool false, .slice none 0 0, .slice none 0 0, .bool false] 26)) (w.heap.size) 26 #[.bool b, .slice A n c, .slice D m e, .bool x] := (((blkAt _ _ _ (by simp)).alloc (.cells #[.bool b', .slice A' n' c', .slice D' m' e', .bool x'] 26)).alloc (.cells #[.bool false, .slice none 0 0, .slice none 0 0, .bool false] 26))
  have x1_1 : Blk (((w.alloc (.cells #[.bool b, .slice A n c, .slice D m e, .bool x] 26)).alloc (.cells #[.bool b', .slice A' n' c', .slice D' m' e', .bool x'] 26)).alloc (.cells #[.bool false, .slice none 0 0, .slice none 0 0, .bool false] 26)) (w.heap.size + 1) 26 #[.bool b', .slice A' n' c', .slice D' m' e', .bool x'] := ((blkAt _ _ _ (by simp)).alloc (.cells #[.bool false, .slice none 0 0, .slice none 0 0, .bool false] 26))
  have x1_2 : Blk (((w.alloc (.cells #[.bool b, .slice A n c, .slice D m e, .bool x] 26)).alloc (.cells #[.bool b', .slice A' n' c', .slice D' m' e', .bool x'] 26)).alloc (.cells #[.bool false, .slice none 0 0, .slice none 0 0, .bool false] 26)) (w.heap.size + 1 + 1) 26 #[.bool false, .slice none 0 0, .slice none 0 0, .bool false] := (blkAt _ _ _ (by simp))
  have lw1 : w.heap.size + 3 ≤ (((w.alloc (.cells #[.bool b, .slice A n c, .slice D m e, .bool x] 26)).alloc (.cells #[.bool b', .slice A' n' c', .slice D' m' e', .bool x'] 26)).alloc (.cells #[.bool false, .slice none 0 0, .slice none 0 0, .bool false] 26)).heap.size := by simp
  generalize hE1 : (((w.alloc (.cells #[.bool b, .slice A n c, .slice D m e, .bool x] 26)).alloc (.cells #[.bool b', .slice A' n' c', .slice D' m' e', .bool x'] 26)).alloc (.cells #[.bool false, .slice none 0 0, .slice none 0 0, .bool false] 26)) = w1 at p1 bw1 lw1 x1_0 x1_1 x1_2 ⊢
  clear hE1
  replace h := h.keep p1
  replace h' := h'.keep p1
  obtain ⟨cx1_0_0, cx1_0_1, cx1_0_2, cx1_0_3⟩ := x1_0.c4
  obtain ⟨lx1_0_0, lx1_0_1, lx1_0_2, lx1_0_3⟩ := lts0 x1_0.lt
  obtain ⟨cx1_1_0, cx1_1_1, cx1_1_2, cx1_1_3⟩ := x1_1.c4
  obtain ⟨lx1_1_0, lx1_1_1, lx1_1_2, lx1_1_3⟩ := lts1 x1_1.lt
  refine wp_region_lin (B := w.heap.size) (fr := fun xf => ⟨List.toArray (.agg #[.bool b, .slice A n c, .slice D m e, .bool x] :: .agg #[.bool b', .slice A' n' c', .slice D' m' e', .bool x'] :: .pointer (some ⟨w.heap.size, 0, none⟩) :: .pointer (some ⟨w.heap.size + 1, 0, none⟩) :: .pointer (some ⟨w.heap.size + 1 + 1, 0, none⟩) :: xf 4 :: xf 0 :: xf 1 :: xf 2 :: xf 3 :: undef :: undef :: undef :: undef :: undef :: undef :: undef :: undef :: undef :: undef :: undef :: undef :: undef :: undef :: undef :: undef :: undef :: undef :: undef :: undef :: undef :: undef :: []), []⟩) (R := fun i => List.getD ((PEq (.agg #[.bool b', .slice A' n' c', .slice D' m' e', .bool x'])) :: (PEq (.agg #[.bool b, .slice A n c, .slice D m e, .bool x])) :: (VT (tneg ((t))) ((k))) :: (VT (tadd ((t')) ((tneg ((t))))) (2 * ((k')) + 2 * (((k))) + 3)) :: PAny :: PAny :: []) i (fun _ _ => True)) (es := [⟨4, 5, 26, #[.bool false, .slice none 0 0, .slice none 0 0, .bool false], CT (tadd ((t')) ((tneg ((t))))) (2 * ((k')) + 2 * (((k))) + 3)⟩]) (ow := [⟨w.heap.size, 6, 0, 26, #[.bool b, .slice A n c, .slice D m e, .bool x], CAny⟩, ⟨w.heap.size + 1, 6, 0, 26, #[.bool b', .slice A' n' c', .slice D' m' e', .bool x'], CAny⟩, ⟨w.heap.size + 1 + 1, 6, 0, 26, #[.bool false, .slice none 0 0, .slice none 0 0, .bool false], CAny⟩]) (x0 := (fun _ => undef)) (by kernel_rfl)
    (each_of ⟨fun _ _ => rfl, fun _ _ => rfl, fun _ _ => rfl, fun _ _ => rfl, fun _ _ => rfl, fun _ _ => rfl, trivial⟩) (each_of (acyc_from _ 0 (by kernel_rfl))) (AllStab.get _ ⟨stEq _, stEq _, stT _ _, stT _ _, stAny, stAny, trivial⟩)
    (List.forall_mem_cons.2 ⟨scT _ _, fun _ h => nomatch h⟩) (List.forall_mem_cons.2 ⟨scAny, List.forall_mem_cons.2 ⟨scAny, List.forall_mem_cons.2 ⟨scAny, fun _ h => nomatch h⟩⟩⟩) (List.forall_mem_cons.2 ⟨⟨by simp, by simp⟩, fun _ h => nomatch h⟩) bw1.size
    (List.forall_mem_cons.2 ⟨⟨x1_0, by show w.heap.size ≤ w.heap.size; omega⟩, List.forall_mem_cons.2 ⟨⟨x1_1, by show w.heap.size ≤ w.heap.size + 1; omega⟩, List.forall_mem_cons.2 ⟨⟨x1_2, by show w.heap.size ≤ w.heap.size + 1 + 1; omega⟩, fun _ h => nomatch h⟩⟩⟩) (ownDist (by simp <;> omega))
    (each_of ⟨?_, ?_, ?_, ?_, ?_, ?_, trivial⟩) ?_
  · exact .inl ⟨by simp, by simp, fun xf wq hk hbl hd K hK => by
      have y : Blk wq (w.heap.size + 1) 26 #[.bool b', .slice A' n' c', .slice D' m' e', .bool x'] := hbl _ (List.Mem.tail _ (List.Mem.head _)) (by simp [Region.binds])
      obtain ⟨hcl0, hcl1, hcl2, hcl3⟩ := y.c4
      (try dsimp only)
      go_simp
      exact hK.out (.agg #[.bool b', .slice A' n' c', .slice D' m' e', .bool x']) _ rfl (brefl _)⟩
  · exact .inl ⟨by simp, by simp, fun xf wq hk hbl hd K hK => by
      have y : Blk wq (w.heap.size) 26 #[.bool b, .slice A n c, .slice D m e, .bool x] := hbl _ (List.Mem.head _) (by simp [Region.binds])
      obtain ⟨hcl0, hcl1, hcl2, hcl3⟩ := y.c4
      (try dsimp only)
      go_simp
      exact hK.out (.agg #[.bool b, .slice A n c, .slice D m e, .bool x]) _ rfl (brefl _)⟩
  · exact .inl ⟨by simp, by simp, fun xf wq hk hbl hd K hK => by
      have dq1 : xf 1 = .agg #[.bool b, .slice A n c, .slice D m e, .bool x] := hd ⟨1, .data⟩ (by simp) rfl
      (try dsimp only); (try simp only [dq1])
      go_simp
      go_at_call 31
      (with_reducible refine (u_Neg _ b A n c D m e x (t) (k) ?_ ?_ ?_).mono ?_); (exact (h.keep hk)); (first | omega | decide | assumption); (first | omega | decide | assumption); rintro e wr ⟨b3, A3, n3, c3, A'3, n'3, c'3, x3, rfl, h3, hbr⟩
      have hz := hK.out _ _ ⟨b3, A3, n3, c3, A'3, n'3, c'3, x3, rfl, h3⟩ hbr
      simp only [dq1] at hz
      exact hz⟩
  · exact .inl ⟨by simp, by simp, fun xf wq hk hbl hd K hK => by
      have dq0 : xf 0 = .agg #[.bool b', .slice A' n' c', .slice D' m' e', .bool x'] := hd ⟨0, .data⟩ (by simp) rfl
      obtain ⟨b3, A3, n3, c3, A'3, n'3, c'3, x3, dq2, h3⟩ : VT (tneg ((t))) ((k)) (xf 2) wq := hd ⟨2, .data⟩ (by simp) rfl
      (try dsimp only); (try simp only [dq0, dq2])
      go_simp
      go_at_call 18
      (with_reducible refine (u_Add _ b' A' n' c' D' m' e' x' (t') (k') ?_ b3 A3 n3 c3 A'3 n'3 c'3 x3 (tneg ((t))) ((k)) ?_ ?_ ?_ ?_ ?_).mono ?_); (exact (h'.keep hk)); (exact h3.tk); (first | omega | decide | assumption); (first | omega | decide | assumption); (first | omega | decide | assumption); (first | omega | decide | assumption); rintro e wr ⟨b4, A4, n4, c4, A'4, n'4, c'4, x4, rfl, h4, hbr⟩
      have hz := hK.out _ _ ⟨b4, A4, n4, c4, A'4, n'4, c'4, x4, rfl, h4⟩ hbr
      simp only [dq0, dq2] at hz
      exact hz⟩
  · exact .inr (.inl ⟨⟨4, 5, 26, #[.bool false, .slice none 0 0, .slice none 0 0, .bool false], CT (tadd ((t')) ((tneg ((t))))) (2 * ((k')) + 2 * (((k))) + 3)⟩, by simp, rfl, by simp, by simp, by simp, fun _ _ => True.intro, fun xf wq K hK => by
      (try dsimp only)
      go_simp
      exact hK.out⟩)
  · exact .inr (.inr (.inl ⟨⟨4, 5, 26, #[.bool false, .slice none 0 0, .slice none 0 0, .bool false], CT (tadd ((t')) ((tneg ((t))))) (2 * ((k')) + 2 * (((k))) + 3)⟩, by simp, rfl, by simp, by simp, by simp, by simp, (show KT 26 = false by decide), fun _ _ => True.intro, ⟨⟨4, .data⟩, by simp, rfl, rfl⟩, fun xf wq g hx hblk hd => by
      obtain ⟨b4, A4, n4, c4, A'4, n'4, c'4, x4, dq3, h4⟩ : VT (tadd ((t')) ((tneg ((t))))) (2 * ((k')) + 2 * (((k))) + 3) (xf 3) wq := hd ⟨3, .data⟩ (by simp) rfl
      dsimp only at hx hblk
      refine ⟨[.bool b4, .slice A4 n4 c4, .slice A'4 n'4 c'4, .bool x4], fun w' hk => ⟨b4, A4, n4, c4, A'4, n'4, c'4, x4, rfl, h4.keep hk⟩, fun K hK => ?_⟩
      have hc0 : wq.cell? ⟨g, 0, none⟩ = some (.bool false) := hblk.cell 0
      have hc1 : wq.cell? ⟨g, 1, none⟩ = some (.slice none 0 0) := hblk.cell 1
      have hc2 : wq.cell? ⟨g, 2, none⟩ = some (.slice none 0 0) := hblk.cell 2
      have hc3 : wq.cell? ⟨g, 3, none⟩ = some (.bool false) := hblk.cell 3
      have hf0 : wq.frozen? ⟨g, 0, none⟩ = false := hblk.frozen 0
      have hf1 : wq.frozen? ⟨g, 1, none⟩ = false := hblk.frozen 1
      have hf2 : wq.frozen? ⟨g, 2, none⟩ = false := hblk.frozen 2
      have hf3 : wq.frozen? ⟨g, 3, none⟩ = false := hblk.frozen 3
      (try dsimp only)
      simp only [hx, dq3]
      go_simp
      have hz := hK.out undef
      simp only [hx, dq3] at hz
      exact hz⟩))
  clear cx1_0_0 cx1_0_1 cx1_0_2 cx1_0_3 lx1_0_0 lx1_0_1 lx1_0_2 lx1_0_3 cx1_1_0 cx1_1_1 cx1_1_2 cx1_1_3 lx1_1_0 lx1_1_1 lx1_1_2 lx1_1_3
  intro y2 w2 kq2 hbl2 lw2 how hrr hfl hds
  replace h := h.keep kq2
  replace h' := h'.keep kq2
  obtain ⟨_, z2_0, ez, _⟩ := how _ (List.Mem.head _)
  obtain rfl := ez (by simp)
  dsimp only at z2_0
  obtain ⟨_, z2_1, ez, _⟩ := how _ (List.Mem.tail _ (List.Mem.head _))
  obtain rfl := ez (by simp)
  dsimp only at z2_1
  obtain ⟨_, z2_2, ez, _⟩ := how _ (List.Mem.tail _ (List.Mem.tail _ (List.Mem.head _)))
  obtain rfl := ez (by simp)
  dsimp only at z2_2
  obtain ⟨g5_2, _, eg5_2, Gg5_2, xg5_2, ⟨b4, A4, n4, c4, A'4, n'4, c'4, x4, rfl, h4⟩⟩ := hfl _ (List.Mem.head _)
  dsimp only at eg5_2 Gg5_2 xg5_2
  have lgg5_2 : g5_2 < w2.heap.size := xg5_2.lt
  (try dsimp only)
  simp only [eg5_2]
  clear hrr hfl how hds eg5_2
  clear x1_0 x1_1 x1_2
  have bw2 : Below w.heap.size w w2 := bw1.trans hbl2
  clear bw1
  obtain ⟨cxg5_2_0, cxg5_2_1, cxg5_2_2, cxg5_2_3⟩ := xg5_2.c4
  obtain ⟨lxg5_2_0, lxg5_2_1, lxg5_2_2, lxg5_2_3⟩ := lts0 xg5_2.lt
  obtain rfl : x4 = false := h4.2.1.trans HH.out
  go_wp2_with fail
  (with_reducible refine (g_sign_e _ b4 A4 n4 c4 A'4 n'4 c'4 ((tadd ((t')) ((tneg ((t))))).t) (2 * ((k')) + 2 * (((k))) + 3) ?_ (s) ?_ ?_ ?_).mono ?_); (exact h4.qz); (exact HS.out); (first | omega | decide | assumption); (first | omega | decide | assumption); rintro e w6 ⟨rfl, hb6⟩
  clear cxg5_2_0 cxg5_2_1 cxg5_2_2 cxg5_2_3 lxg5_2_0 lxg5_2_1 lxg5_2_2 lxg5_2_3
  have q6 : Below w2.heap.size w2 w6 := hb6
  replace h := h.belw q6
  replace h' := h'.belw q6
  replace h4 := h4.belw q6
  replace z2_0 := z2_0.below q6 z2_0.lt
  replace z2_1 := z2_1.below q6 z2_1.lt
  replace z2_2 := z2_2.below q6 z2_2.lt
  replace xg5_2 := xg5_2.below q6 xg5_2.lt
  have bw6 : Below w.heap.size w w6 := bw2.trans (q6.mono bw2.size)
  have lw6 : w2.heap.size ≤ w6.heap.size := q6.size
  clear hb6 q6 bw2
  obtain ⟨cz2_0_0, cz2_0_1, cz2_0_2, cz2_0_3⟩ := z2_0.c4
  obtain ⟨lz2_0_0, lz2_0_1, lz2_0_2, lz2_0_3⟩ := lts0 z2_0.lt
  go_wp2_with fail
  (with_reducible refine (u_Add _ b A n c D m e x (t) (k) ?_ false none 0 0 none 0 0 true thalf 1 ?_ ?_ ?_ ?_ ?_).mono ?_); (exact h); (exact (THalf.zero _)); (first | omega | decide | assumption); (first | omega | decide | assumption); (first | omega | decide | assumption); (first | omega | decide | assumption); rintro e w7 ⟨b7, A7, n7, c7, A'7, n'7, c'7, x7, rfl, h7, hb7⟩
  clear cz2_0_0 cz2_0_1 cz2_0_2 cz2_0_3 lz2_0_0 lz2_0_1 lz2_0_2 lz2_0_3
  have q7 : Below w6.heap.size w6 w7 := hb7
  replace h := h.belw q7
  replace h' := h'.belw q7
  replace h4 := h4.belw q7
  replace z2_0 := z2_0.below q7 z2_0.lt
  replace z2_1 := z2_1.below q7 z2_1.lt
  replace z2_2 := z2_2.below q7 z2_2.lt
  replace xg5_2 := xg5_2.below q7 xg5_2.lt
  have bw7 : Below w.heap.size w w7 := bw6.trans (q7.mono bw6.size)
  have lw7 : w6.heap.size ≤ w7.heap.size := q7.size
  clear hb7 q7 bw6
  obtain ⟨cz2_2_0, cz2_2_1, cz2_2_2, cz2_2_3⟩ := z2_2.c4
  obtain ⟨fz2_2_0, fz2_2_1, fz2_2_2, fz2_2_3⟩ := z2_2.f4
  obtain ⟨lz2_2_0, lz2_2_1, lz2_2_2, lz2_2_3⟩ := lts2 z2_2.lt
  go_wp2_with fail
  rw [HT.out]
  refine bodyPost_ret (v := .agg #[.bool b7, .slice A7 n7 c7, .slice A'7 n'7 c'7, .bool x7]) (by simp [results, Tryz.results20, go_sem, *] <;> first | rfl | exact ⟨rfl, rfl⟩) rfl ?_
  have kp := (((((Kp.refl w7).setB (p := ⟨w.heap.size + 1 + 1, 0, none⟩) z2_2.box (by decide) (.bool b7)).setB (p := ⟨w.heap.size + 1 + 1, 1, none⟩) (z2_2.box.set ⟨w.heap.size + 1 + 1, 0, none⟩ (.bool b7)) (by decide) (.slice A7 n7 c7)).setB (p := ⟨w.heap.size + 1 + 1, 2, none⟩) ((z2_2.box.set ⟨w.heap.size + 1 + 1, 0, none⟩ (.bool b7)).set ⟨w.heap.size + 1 + 1, 1, none⟩ (.slice A7 n7 c7)) (by decide) (.slice A'7 n'7 c'7)).setB (p := ⟨w.heap.size + 1 + 1, 3, none⟩) (((z2_2.box.set ⟨w.heap.size + 1 + 1, 0, none⟩ (.bool b7)).set ⟨w.heap.size + 1 + 1, 1, none⟩ (.slice A7 n7 c7)).set ⟨w.heap.size + 1 + 1, 2, none⟩ (.slice A'7 n'7 c'7)) (by decide) (.bool x7))
  exact ⟨b7, A7, n7, c7, A'7, n'7, c'7, x7, rfl, (h7.keep kp).mono (by omega), ((((bw7.setCell (p := ⟨w.heap.size + 1 + 1, 0, none⟩) (by dsimp only; omega) (.bool b7)).setCell (p := ⟨w.heap.size + 1 + 1, 1, none⟩) (by dsimp only; omega) (.slice A7 n7 c7)).setCell (p := ⟨w.heap.size + 1 + 1, 2, none⟩) (by dsimp only; omega) (.slice A'7 n'7 c'7)).setCell (p := ⟨w.heap.size + 1 + 1, 3, none⟩) (by dsimp only; omega) (.bool x7))⟩
theorem u_sgn_pos (q : Rat) : 0 < q.num.sign ↔ 0 < q := by
  rw [show (0 < q) = (0 < q.num) from propext (by rw [Rat.lt_iff]; simp)]
  rcases Int.lt_trichotomy 0 q.num with h | h | h
  · rw [Int.sign_eq_one_of_pos h]; omega
  · rw [← h]; simp
  · rw [Int.sign_eq_neg_one_of_neg h]; omega
theorem u_Between (w : World) (b : Bool) (A : Option Addr) (n c : Nat) (D : Option Addr) (m e : Nat) (x : Bool) (t : TN) (k : Nat) (h : TK w b A n c D m e x t k) (b' : Bool) (A' : Option Addr) (n' c' : Nat) (D' : Option Addr) (m' e' : Nat) (x' : Bool) (t' : TN) (k' : Nat) (h' : TK w b' A' n' c' D' m' e' x' t' k') (h0 : 0 < k) (hk : k ≤ 50000) (h0' : 0 < k') (hk' : k' ≤ 50000) : Calls Tryz.prog 20 #[.agg #[.bool b, .slice A n c, .slice D m e, .bool x], .agg #[.bool b', .slice A' n' c', .slice D' m' e', .bool x']] w (RetT w (tbetween t t') (6 * k + 4 * k' + 20)) := by
  by_cases hh : (tadd t' (tneg t)).h = true
  · exact u_Between_h w b A n c D m e x t k h b' A' n' c' D' m' e' x' t' k' h' h0 hk h0' hk' hh
  · have hf : (tadd t' (tneg t)).h = false := by revert hh; cases (tadd t' (tneg t)).h <;> simp
    by_cases hp : 0 < (tadd t' (tneg t)).t
    · exact u_Between_p w b A n c D m e x t k h b' A' n' c' D' m' e' x' t' k' h' h0 hk h0' hk' hf _ rfl hp ((u_sgn_pos _).2 hp)
    · exact u_Between_n w b A n c D m e x t k h b' A' n' c' D' m' e' x' t' k' h' h0 hk h0' hk' hf _ rfl hp (fun y => hp ((u_sgn_pos _).1 y))
def RetP (w : World) (q r : Rat) (k : Nat) (e : Ending) (w' : World) : Prop := ∃ b A n c A' n' c' d D m f D' m' f', e = .returned (.agg #[.bool b, .slice A n c, .slice A' n' c', .bool d, .slice D m f, .slice D' m' f']) ∧ QV w' b A n c A' n' c' q k ∧ QV w' d D m f D' m' f' r k ∧ Below w.heap.size w w'
set_option maxRecDepth 100000 in
set_option maxHeartbeats 4000000 in
/-- linkworkref12.Apply -/
theorem u_Apply (w : World) (b : Bool) (A : Option Addr) (n c : Nat) (D : Option Addr) (m e : Nat) (x : Bool) (t : TN) (k : Nat) (h : TK w b A n c D m e x t k) (b' : Bool) (A' : Option Addr) (n' c' : Nat) (D' : Option Addr) (m' e' : Nat) (q' : Rat) (k' : Nat) (h' : QZ w b' A' n' c' D' m' e' q' k') (b'' : Bool) (A'' : Option Addr) (n'' c'' : Nat) (D'' : Option Addr) (m'' e'' : Nat) (q'' : Rat) (k'' : Nat) (h'' : QZ w b'' A'' n'' c'' D'' m'' e'' q'' k'') (h0 : 0 < k) (hk : k ≤ 1000000) (h0' : 0 < k') (hk' : k' ≤ 1000000) (h0'' : 0 < k'') (hk'' : k'' ≤ 1000000) :
    Calls Tryz.prog 15 #[.agg #[.bool b, .slice A n c, .slice D m e, .bool x], .agg #[.bool b', .slice A' n' c', .slice D' m' e', .bool b'', .slice A'' n'' c'', .slice D'' m'' e'']] w (RetP w (tapply t q' q'').1 (tapply t q' q'').2 (8 * k + 9 + k' + k'')) := by
  go_enter Tryz.func15, Tryz.ntmps15
  go_wp2_with fail
  have p1 : Kp w (((w.alloc (.cells #[.bool b, .slice A n c, .slice D m e, .bool x] 26)).alloc (.cells #[.bool b', .slice A' n' c', .slice D' m' e', .bool b'', .slice A'' n'' c'', .slice D'' m'' e''] 38)).alloc (.cells #[.bool false, .slice none 0 0, .slice none 0 0, .bool false, .slice none 0 0, .slice none 0 0] 38)) := ((((Kp.refl w).alloc (.cells #[.bool b, .slice A n c, .slice D m e, .bool x] 26)).alloc (.cells #[.bool b', .slice A' n' c', .slice D' m' e', .bool b'', .slice A'' n'' c'', .slice D'' m'' e''] 38)).alloc (.cells #[.bool false, .slice none 0 0, .slice none 0 0, .bool false, .slice none 0 0, .slice none 0 0] 38))
  have bw1 : Below w.heap.size w (((w.alloc (.cells #[.bool b, .slice A n c, .slice D m e, .bool x] 26)).alloc (.cells #[.bool b', .slice A' n' c', .slice D' m' e', .bool b'', .slice A'' n'' c'', .slice D'' m'' e''] 38)).alloc (.cells #[.bool false, .slice none 0 0, .slice none 0 0, .bool false, .slice none 0 0, .slice none 0 0] 38)) := ((((brefl w).alloc (by first | omega | (simp <;> omega)) (.cells #[.bool b, .slice A n c, .slice D m e, .bool x] 26)).alloc (by first | omega | (simp <;> omega)) (.cells #[.bool b', .slice A' n' c', .slice D' m' e', .bool b'', .slice A'' n'' c'', .slice D'' m'' e''] 38)).alloc (by first | omega | (simp <;> omega)) (.cells #[.bool false, .slice none 0 0, .slice none 0 0, .bool false, .slice none 0 0, .slice none 0 0] 38))
  have x1_0 : Blk (((w.alloc (.cells #[.bool b, .slice A n c, .slice D m e, .bool x] 26)).alloc (.cells #[.bool b', .slice A' n' c', .slice D' m' e', .bool b'', .slice A'' n'' c'', .slice D'' m'' e''] 38)).alloc (.cells #[.bool false, .slice none 0 0, .slice none 0 0, .bool false, .slice none 0 0, .slice none 0 0] 38)) (w.heap.size) 26 #[.bool b, .slice A n c, .slice D m e, .bool x] := (((blkAt _ _ _ (by simp)).alloc (.cells #[.bool b', .slice A' n' c', .slice D' m' e', .bool b'', .slice A'' n'' c'', .slice D'' m'' e''] 38)).alloc (.cells #[.bool false, .slice none 0 0, .slice none 0 0, .bool false, .slice none 0 0, .slice none 0 0] 38))
  have x1_1 : Blk (((w.alloc (.cells #[.bool b, .slice A n c, .slice D m e, .bool x] 26)).alloc (.cells #[.bool b', .slice A' n' c', .slice D' m' e', .bool b'', .slice A'' n'' c'', .slice D'' m'' e''] 38)).alloc (.cells #[.bool false, .slice none 0 0, .slice none 0 0, .bool false, .slice none 0 0, .slice none 0 0] 38)) (w.heap.size + 1) 38 #[.bool b', .slice A' n' c', .slice D' m' e', .bool b'', .slice A'' n'' c'', .slice D'' m'' e''] := ((blkAt _ _ _ (by simp)).alloc (.cells #[.bool false, .slice none 0 0, .slice none 0 0, .bool false, .slice none 0 0, .slice none 0 0] 38))
  have x1_2 : Blk (((w.alloc (.cells #[.bool b, .slice A n c, .slice D m e, .bool x] 26)).alloc (.cells #[.bool b', .slice A' n' c', .slice D' m' e', .bool b'', .slice A'' n'' c'', .slice D'' m'' e''] 38)).alloc (.cells #[.bool false, .slice none 0 0, .slice none 0 0, .bool false, .slice none 0 0, .slice none 0 0] 38)) (w.heap.size + 1 + 1) 38 #[.bool false, .slice none 0 0, .slice none 0 0, .bool false, .slice none 0 0, .slice none 0 0] := (blkAt _ _ _ (by simp))
  have lw1 : w.heap.size + 3 ≤ (((w.alloc (.cells #[.bool b, .slice A n c, .slice D m e, .bool x] 26)).alloc (.cells #[.bool b', .slice A' n' c', .slice D' m' e', .bool b'', .slice A'' n'' c'', .slice D'' m'' e''] 38)).alloc (.cells #[.bool false, .slice none 0 0, .slice none 0 0, .bool false, .slice none 0 0, .slice none 0 0] 38)).heap.size := by simp
  generalize hE1 : (((w.alloc (.cells #[.bool b, .slice A n c, .slice D m e, .bool x] 26)).alloc (.cells #[.bool b', .slice A' n' c', .slice D' m' e', .bool b'', .slice A'' n'' c'', .slice D'' m'' e''] 38)).alloc (.cells #[.bool false, .slice none 0 0, .slice none 0 0, .bool false, .slice none 0 0, .slice none 0 0] 38)) = w1 at p1 bw1 lw1 x1_0 x1_1 x1_2 ⊢
  clear hE1
  replace h := h.keep p1
  replace h' := h'.keep p1
  replace h'' := h''.keep p1
  obtain ⟨cx1_0_0, cx1_0_1, cx1_0_2, cx1_0_3⟩ := x1_0.c4
  obtain ⟨lx1_0_0, lx1_0_1, lx1_0_2, lx1_0_3⟩ := lts0 x1_0.lt
  refine wp_region_lin (B := w.heap.size) (fr := fun xf => ⟨List.toArray (.agg #[.bool b, .slice A n c, .slice D m e, .bool x] :: .agg #[.bool b', .slice A' n' c', .slice D' m' e', .bool b'', .slice A'' n'' c'', .slice D'' m'' e''] :: .pointer (some ⟨w.heap.size, 0, none⟩) :: .pointer (some ⟨w.heap.size + 1, 0, none⟩) :: .pointer (some ⟨w.heap.size + 1 + 1, 0, none⟩) :: xf 4 :: xf 5 :: xf 0 :: xf 1 :: xf 2 :: xf 3 :: undef :: undef :: undef :: undef :: undef :: undef :: undef :: undef :: undef :: undef :: undef :: undef :: undef :: undef :: undef :: undef :: undef :: undef :: undef :: []), []⟩) (R := fun i => List.getD ((PEq (.agg #[.bool b, .slice A n c, .slice D m e, .bool x])) :: (VQ (tcos ((t))) (4 * (k) + 4)) :: (PEq (.agg #[.bool b, .slice A n c, .slice D m e, .bool x])) :: (VQ (tsin ((t))) (4 * (k) + 4)) :: PAny :: PAny :: PAny :: PAny :: []) i (fun _ _ => True)) (es := [⟨4, 6, 24, #[.bool false, .slice none 0 0, .slice none 0 0], CQ (tcos ((t))) (4 * (k) + 4)⟩, ⟨5, 7, 24, #[.bool false, .slice none 0 0, .slice none 0 0], CQ (tsin ((t))) (4 * (k) + 4)⟩]) (ow := [⟨w.heap.size, 8, 0, 26, #[.bool b, .slice A n c, .slice D m e, .bool x], CAny⟩, ⟨w.heap.size + 1, 8, 0, 38, #[.bool b', .slice A' n' c', .slice D' m' e', .bool b'', .slice A'' n'' c'', .slice D'' m'' e''], CAny⟩, ⟨w.heap.size + 1 + 1, 8, 0, 38, #[.bool false, .slice none 0 0, .slice none 0 0, .bool false, .slice none 0 0, .slice none 0 0], CAny⟩]) (x0 := (fun _ => undef)) (by kernel_rfl)
    (each_of ⟨fun _ _ => rfl, fun _ _ => rfl, fun _ _ => rfl, fun _ _ => rfl, fun _ _ => rfl, fun _ _ => rfl, fun _ _ => rfl, fun _ _ => rfl, trivial⟩) (each_of (acyc_from _ 0 (by kernel_rfl))) (AllStab.get _ ⟨stEq _, stQ _ _, stEq _, stQ _ _, stAny, stAny, stAny, stAny, trivial⟩)
    (List.forall_mem_cons.2 ⟨scQ _ _, List.forall_mem_cons.2 ⟨scQ _ _, fun _ h => nomatch h⟩⟩) (List.forall_mem_cons.2 ⟨scAny, List.forall_mem_cons.2 ⟨scAny, List.forall_mem_cons.2 ⟨scAny, fun _ h => nomatch h⟩⟩⟩) (List.forall_mem_cons.2 ⟨⟨by simp, by simp⟩, List.forall_mem_cons.2 ⟨⟨by simp, by simp⟩, fun _ h => nomatch h⟩⟩) bw1.size
    (List.forall_mem_cons.2 ⟨⟨x1_0, by show w.heap.size ≤ w.heap.size; omega⟩, List.forall_mem_cons.2 ⟨⟨x1_1, by show w.heap.size ≤ w.heap.size + 1; omega⟩, List.forall_mem_cons.2 ⟨⟨x1_2, by show w.heap.size ≤ w.heap.size + 1 + 1; omega⟩, fun _ h => nomatch h⟩⟩⟩) (ownDist (by simp <;> omega))
    (each_of ⟨?_, ?_, ?_, ?_, ?_, ?_, ?_, ?_, trivial⟩) ?_
  · exact .inl ⟨by simp, by simp, fun xf wq hk hbl hd K hK => by
      have y : Blk wq (w.heap.size) 26 #[.bool b, .slice A n c, .slice D m e, .bool x] := hbl _ (List.Mem.head _) (by simp [Region.binds])
      obtain ⟨hcl0, hcl1, hcl2, hcl3⟩ := y.c4
      (try dsimp only)
      go_simp
      exact hK.out (.agg #[.bool b, .slice A n c, .slice D m e, .bool x]) _ rfl (brefl _)⟩
  · exact .inl ⟨by simp, by simp, fun xf wq hk hbl hd K hK => by
      have dq0 : xf 0 = .agg #[.bool b, .slice A n c, .slice D m e, .bool x] := hd ⟨0, .data⟩ (by simp) rfl
      (try dsimp only); (try simp only [dq0])
      go_simp
      go_at_call 41
      (with_reducible refine (u_Cos _ b A n c D m e x (t) (k) ?_ ?_ ?_).mono ?_); (exact (h.keep hk)); (first | omega | decide | assumption); (first | omega | decide | assumption); rintro e wr ⟨b3, A3, n3, c3, A'3, n'3, c'3, rfl, h3, hbr⟩
      have hz := hK.out _ _ ⟨b3, A3, n3, c3, A'3, n'3, c'3, rfl, h3⟩ hbr
      simp only [dq0] at hz
      exact hz⟩
  · exact .inl ⟨by simp, by simp, fun xf wq hk hbl hd K hK => by
      have y : Blk wq (w.heap.size) 26 #[.bool b, .slice A n c, .slice D m e, .bool x] := hbl _ (List.Mem.head _) (by simp [Region.binds])
      obtain ⟨hcl0, hcl1, hcl2, hcl3⟩ := y.c4
      (try dsimp only)
      go_simp
      exact hK.out (.agg #[.bool b, .slice A n c, .slice D m e, .bool x]) _ rfl (brefl _)⟩
  · exact .inl ⟨by simp, by simp, fun xf wq hk hbl hd K hK => by
      have dq2 : xf 2 = .agg #[.bool b, .slice A n c, .slice D m e, .bool x] := hd ⟨2, .data⟩ (by simp) rfl
      (try dsimp only); (try simp only [dq2])
      go_simp
      go_at_call 42
      (with_reducible refine (u_Sin _ b A n c D m e x (t) (k) ?_ ?_ ?_).mono ?_); (exact (h.keep hk)); (first | omega | decide | assumption); (first | omega | decide | assumption); rintro e wr ⟨b4, A4, n4, c4, A'4, n'4, c'4, rfl, h4, hbr⟩
      have hz := hK.out _ _ ⟨b4, A4, n4, c4, A'4, n'4, c'4, rfl, h4⟩ hbr
      simp only [dq2] at hz
      exact hz⟩
  · exact .inr (.inl ⟨⟨4, 6, 24, #[.bool false, .slice none 0 0, .slice none 0 0], CQ (tcos ((t))) (4 * (k) + 4)⟩, by simp, rfl, by simp, by simp, by simp, fun _ _ => True.intro, fun xf wq K hK => by
      (try dsimp only)
      go_simp
      exact hK.out⟩)
  · exact .inr (.inl ⟨⟨5, 7, 24, #[.bool false, .slice none 0 0, .slice none 0 0], CQ (tsin ((t))) (4 * (k) + 4)⟩, by simp, rfl, by simp, by simp, by simp, fun _ _ => True.intro, fun xf wq K hK => by
      (try dsimp only)
      go_simp
      exact hK.out⟩)
  · exact .inr (.inr (.inl ⟨⟨4, 6, 24, #[.bool false, .slice none 0 0, .slice none 0 0], CQ (tcos ((t))) (4 * (k) + 4)⟩, by simp, rfl, by simp, by simp, by simp, by simp, (show KT 24 = false by decide), fun _ _ => True.intro, ⟨⟨4, .data⟩, by simp, rfl, rfl⟩, fun xf wq g hx hblk hd => by
      obtain ⟨b3, A3, n3, c3, A'3, n'3, c'3, dq1, h3⟩ : VQ (tcos ((t))) (4 * (k) + 4) (xf 1) wq := hd ⟨1, .data⟩ (by simp) rfl
      dsimp only at hx hblk
      refine ⟨[.bool b3, .slice A3 n3 c3, .slice A'3 n'3 c'3], fun w' hk => ⟨b3, A3, n3, c3, A'3, n'3, c'3, rfl, h3.keep hk⟩, fun K hK => ?_⟩
      have hc0 : wq.cell? ⟨g, 0, none⟩ = some (.bool false) := hblk.cell 0
      have hc1 : wq.cell? ⟨g, 1, none⟩ = some (.slice none 0 0) := hblk.cell 1
      have hc2 : wq.cell? ⟨g, 2, none⟩ = some (.slice none 0 0) := hblk.cell 2
      have hf0 : wq.frozen? ⟨g, 0, none⟩ = false := hblk.frozen 0
      have hf1 : wq.frozen? ⟨g, 1, none⟩ = false := hblk.frozen 1
      have hf2 : wq.frozen? ⟨g, 2, none⟩ = false := hblk.frozen 2
      (try dsimp only)
      simp only [hx, dq1]
      go_simp
      have hz := hK.out undef
      simp only [hx, dq1] at hz
      exact hz⟩))
  · exact .inr (.inr (.inl ⟨⟨5, 7, 24, #[.bool false, .slice none 0 0, .slice none 0 0], CQ (tsin ((t))) (4 * (k) + 4)⟩, by simp, rfl, by simp, by simp, by simp, by simp, (show KT 24 = false by decide), fun _ _ => True.intro, ⟨⟨5, .data⟩, by simp, rfl, rfl⟩, fun xf wq g hx hblk hd => by
      obtain ⟨b4, A4, n4, c4, A'4, n'4, c'4, dq3, h4⟩ : VQ (tsin ((t))) (4 * (k) + 4) (xf 3) wq := hd ⟨3, .data⟩ (by simp) rfl
      dsimp only at hx hblk
      refine ⟨[.bool b4, .slice A4 n4 c4, .slice A'4 n'4 c'4], fun w' hk => ⟨b4, A4, n4, c4, A'4, n'4, c'4, rfl, h4.keep hk⟩, fun K hK => ?_⟩
      have hc0 : wq.cell? ⟨g, 0, none⟩ = some (.bool false) := hblk.cell 0
      have hc1 : wq.cell? ⟨g, 1, none⟩ = some (.slice none 0 0) := hblk.cell 1
      have hc2 : wq.cell? ⟨g, 2, none⟩ = some (.slice none 0 0) := hblk.cell 2
      have hf0 : wq.frozen? ⟨g, 0, none⟩ = false := hblk.frozen 0
      have hf1 : wq.frozen? ⟨g, 1, none⟩ = false := hblk.frozen 1
      have hf2 : wq.frozen? ⟨g, 2, none⟩ = false := hblk.frozen 2
      (try dsimp only)
      simp only [hx, dq3]
      go_simp
      have hz := hK.out undef
      simp only [hx, dq3] at hz
      exact hz⟩))
  clear cx1_0_0 cx1_0_1 cx1_0_2 cx1_0_3 lx1_0_0 lx1_0_1 lx1_0_2 lx1_0_3
  intro y2 w2 kq2 hbl2 lw2 how hrr hfl hds
  replace h := h.keep kq2
  replace h' := h'.keep kq2
  replace h'' := h''.keep kq2
  obtain ⟨_, z2_0, ez, _⟩ := how _ (List.Mem.head _)
  obtain rfl := ez (by simp)
  dsimp only at z2_0
  obtain ⟨_, z2_1, ez, _⟩ := how _ (List.Mem.tail _ (List.Mem.head _))
  obtain rfl := ez (by simp)
  dsimp only at z2_1
  obtain ⟨_, z2_2, ez, _⟩ := how _ (List.Mem.tail _ (List.Mem.tail _ (List.Mem.head _)))
  obtain rfl := ez (by simp)
  dsimp only at z2_2
  obtain ⟨g5_2, _, eg5_2, Gg5_2, xg5_2, ⟨b3, A3, n3, c3, A'3, n'3, c'3, rfl, h3⟩⟩ := hfl _ (List.Mem.head _)
  dsimp only at eg5_2 Gg5_2 xg5_2
  obtain ⟨g6_2, _, eg6_2, Gg6_2, xg6_2, ⟨b4, A4, n4, c4, A'4, n'4, c'4, rfl, h4⟩⟩ := hfl _ (List.Mem.tail _ (List.Mem.head _))
  dsimp only at eg6_2 Gg6_2 xg6_2
  have lgg5_2 : g5_2 < w2.heap.size := xg5_2.lt
  have lgg6_2 : g6_2 < w2.heap.size := xg6_2.lt
  have ngg5_2g6_2 : g5_2 ≠ g6_2 := fun e => hds _ (List.Mem.head _) _ (List.Mem.tail _ (List.Mem.head _)) (by simp) (by dsimp only; rw [eg5_2, eg6_2, e])
  (try dsimp only)
  simp only [eg5_2, eg6_2]
  clear hrr hfl how hds eg5_2 eg6_2
  clear x1_0 x1_1 x1_2
  have bw2 : Below w.heap.size w w2 := bw1.trans hbl2
  clear bw1
  have cz2_1_0 : w2.cell? ⟨w.heap.size + 1, 0, none⟩ = some (.bool b') := z2_1.cell 0
  have cz2_1_1 : w2.cell? ⟨w.heap.size + 1, 1, none⟩ = some (.slice A' n' c') := z2_1.cell 1
  have cz2_1_2 : w2.cell? ⟨w.heap.size + 1, 2, none⟩ = some (.slice D' m' e') := z2_1.cell 2
  have cz2_1_3 : w2.cell? ⟨w.heap.size + 1, 3, none⟩ = some (.bool b'') := z2_1.cell 3
  have cz2_1_4 : w2.cell? ⟨w.heap.size + 1, 4, none⟩ = some (.slice A'' n'' c'') := z2_1.cell 4
  have cz2_1_5 : w2.cell? ⟨w.heap.size + 1, 5, none⟩ = some (.slice D'' m'' e'') := z2_1.cell 5
  obtain ⟨lz2_1_0, lz2_1_1, lz2_1_2, lz2_1_3⟩ := lts1 z2_1.lt
  have cxg5_2_0 : w2.cell? ⟨g5_2, 0, none⟩ = some (.bool b3) := xg5_2.cell 0
  have cxg5_2_1 : w2.cell? ⟨g5_2, 1, none⟩ = some (.slice A3 n3 c3) := xg5_2.cell 1
  have cxg5_2_2 : w2.cell? ⟨g5_2, 2, none⟩ = some (.slice A'3 n'3 c'3) := xg5_2.cell 2
  obtain ⟨lxg5_2_0, lxg5_2_1, lxg5_2_2, lxg5_2_3⟩ := lts0 xg5_2.lt
  have cxg6_2_0 : w2.cell? ⟨g6_2, 0, none⟩ = some (.bool b4) := xg6_2.cell 0
  have cxg6_2_1 : w2.cell? ⟨g6_2, 1, none⟩ = some (.slice A4 n4 c4) := xg6_2.cell 1
  have cxg6_2_2 : w2.cell? ⟨g6_2, 2, none⟩ = some (.slice A'4 n'4 c'4) := xg6_2.cell 2
  obtain ⟨lxg6_2_0, lxg6_2_1, lxg6_2_2, lxg6_2_3⟩ := lts0 xg6_2.lt
  go_wp2_with fail
  refine wp_region_lin (B := w.heap.size) (fr := fun xf => ⟨List.toArray (.agg #[.bool b, .slice A n c, .slice D m e, .bool x] :: .agg #[.bool b', .slice A' n' c', .slice D' m' e', .bool b'', .slice A'' n'' c'', .slice D'' m'' e''] :: .pointer (some ⟨w.heap.size, 0, none⟩) :: .pointer (some ⟨w.heap.size + 1, 0, none⟩) :: .pointer (some ⟨w.heap.size + 1 + 1, 0, none⟩) :: .pointer (some ⟨g5_2, 0, none⟩) :: .pointer (some ⟨g6_2, 0, none⟩) :: y2 0 :: y2 1 :: y2 2 :: y2 3 :: xf 0 :: xf 1 :: xf 2 :: xf 3 :: xf 4 :: xf 5 :: xf 6 :: xf 7 :: xf 8 :: xf 9 :: xf 10 :: xf 11 :: xf 12 :: xf 13 :: xf 14 :: xf 15 :: xf 16 :: xf 17 :: xf 18 :: []), []⟩) (R := fun i => List.getD ((PEq (.agg #[.bool b3, .slice A3 n3 c3, .slice A'3 n'3 c'3])) :: (PEq (.pointer (some ⟨w.heap.size + 1, 0, none⟩))) :: (PEq (.agg #[.bool b', .slice A' n' c', .slice D' m' e'])) :: (VQ ((tcos ((t))) * (q')) ((4 * (k) + 4) + (k'))) :: (PEq (.agg #[.bool b4, .slice A4 n4 c4, .slice A'4 n'4 c'4])) :: (PEq (.pointer (some ⟨w.heap.size + 1, 3, none⟩))) :: (PEq (.agg #[.bool b'', .slice A'' n'' c'', .slice D'' m'' e''])) :: (VQ ((tsin ((t))) * (q'')) ((4 * (k) + 4) + (k''))) :: (VQ (((tcos ((t))) * (q')) - ((tsin ((t))) * (q''))) (((4 * (k) + 4) + (k')) + ((4 * (k) + 4) + (k'')) + 1)) :: (PEq (.agg #[.bool b4, .slice A4 n4 c4, .slice A'4 n'4 c'4])) :: (PEq (.pointer (some ⟨w.heap.size + 1, 0, none⟩))) :: (PEq (.agg #[.bool b', .slice A' n' c', .slice D' m' e'])) :: (VQ ((tsin ((t))) * (q')) ((4 * (k) + 4) + (k'))) :: (PEq (.agg #[.bool b3, .slice A3 n3 c3, .slice A'3 n'3 c'3])) :: (PEq (.pointer (some ⟨w.heap.size + 1, 3, none⟩))) :: (PEq (.agg #[.bool b'', .slice A'' n'' c'', .slice D'' m'' e''])) :: (VQ ((tcos ((t))) * (q'')) ((4 * (k) + 4) + (k''))) :: (VQ (((tsin ((t))) * (q')) + ((tcos ((t))) * (q''))) (((4 * (k) + 4) + (k')) + ((4 * (k) + 4) + (k'')) + 1)) :: (VP (((tcos ((t))) * (q')) - ((tsin ((t))) * (q''))) (((4 * (k) + 4) + (k')) + ((4 * (k) + 4) + (k'')) + 1) (((tsin ((t))) * (q')) + ((tcos ((t))) * (q''))) (((4 * (k) + 4) + (k')) + ((4 * (k) + 4) + (k'')) + 1)) :: PAny :: []) i (fun _ _ => True)) (es := []) (ow := [⟨w.heap.size, 20, 0, 26, #[.bool b, .slice A n c, .slice D m e, .bool x], CAny⟩, ⟨w.heap.size + 1, 20, 0, 38, #[.bool b', .slice A' n' c', .slice D' m' e', .bool b'', .slice A'' n'' c'', .slice D'' m'' e''], CAny⟩, ⟨w.heap.size + 1 + 1, 19, 0, 38, #[.bool false, .slice none 0 0, .slice none 0 0, .bool false, .slice none 0 0, .slice none 0 0], CP (((tcos ((t))) * (q')) - ((tsin ((t))) * (q''))) (((4 * (k) + 4) + (k')) + ((4 * (k) + 4) + (k'')) + 1) (((tsin ((t))) * (q')) + ((tcos ((t))) * (q''))) (((4 * (k) + 4) + (k')) + ((4 * (k) + 4) + (k'')) + 1)⟩, ⟨g5_2, 20, 0, 24, #[.bool b3, .slice A3 n3 c3, .slice A'3 n'3 c'3], CAny⟩, ⟨g6_2, 20, 0, 24, #[.bool b4, .slice A4 n4 c4, .slice A'4 n'4 c'4], CAny⟩]) (x0 := (fun _ => undef)) (by kernel_rfl)
    (each_of ⟨fun _ _ => rfl, fun _ _ => rfl, fun _ _ => rfl, fun _ _ => rfl, fun _ _ => rfl, fun _ _ => rfl, fun _ _ => rfl, fun _ _ => rfl, fun _ _ => rfl, fun _ _ => rfl, fun _ _ => rfl, fun _ _ => rfl, fun _ _ => rfl, fun _ _ => rfl, fun _ _ => rfl, fun _ _ => rfl, fun _ _ => rfl, fun _ _ => rfl, fun _ _ => rfl, fun _ _ => rfl, trivial⟩) (each_of (acyc_from _ 0 (by kernel_rfl))) (AllStab.get _ ⟨stEq _, stEq _, stEq _, stQ _ _, stEq _, stEq _, stEq _, stQ _ _, stQ _ _, stEq _, stEq _, stEq _, stQ _ _, stEq _, stEq _, stEq _, stQ _ _, stQ _ _, stP _ _ _ _, stAny, trivial⟩)
    (fun _ h => nomatch h) (List.forall_mem_cons.2 ⟨scAny, List.forall_mem_cons.2 ⟨scAny, List.forall_mem_cons.2 ⟨scP _ _ _ _, List.forall_mem_cons.2 ⟨scAny, List.forall_mem_cons.2 ⟨scAny, fun _ h => nomatch h⟩⟩⟩⟩⟩) (fun _ h => nomatch h) bw2.size
    (List.forall_mem_cons.2 ⟨⟨z2_0, by show w.heap.size ≤ w.heap.size; omega⟩, List.forall_mem_cons.2 ⟨⟨z2_1, by show w.heap.size ≤ w.heap.size + 1; omega⟩, List.forall_mem_cons.2 ⟨⟨z2_2, by show w.heap.size ≤ w.heap.size + 1 + 1; omega⟩, List.forall_mem_cons.2 ⟨⟨xg5_2, by show w.heap.size ≤ g5_2; omega⟩, List.forall_mem_cons.2 ⟨⟨xg6_2, by show w.heap.size ≤ g6_2; omega⟩, fun _ h => nomatch h⟩⟩⟩⟩⟩) (ownDist (by simp <;> omega))
    (each_of ⟨?_, ?_, ?_, ?_, ?_, ?_, ?_, ?_, ?_, ?_, ?_, ?_, ?_, ?_, ?_, ?_, ?_, ?_, ?_, ?_, trivial⟩) ?_
  · exact .inl ⟨by simp, by simp, fun xf wq hk hbl hd K hK => by
      have y : Blk wq (g5_2) 24 #[.bool b3, .slice A3 n3 c3, .slice A'3 n'3 c'3] := hbl _ (List.Mem.tail _ (List.Mem.tail _ (List.Mem.tail _ (List.Mem.head _)))) (by simp [Region.binds])
      obtain ⟨hcl0, hcl1, hcl2⟩ := y.c3
      (try dsimp only)
      go_simp
      exact hK.out (.agg #[.bool b3, .slice A3 n3 c3, .slice A'3 n'3 c'3]) _ rfl (brefl _)⟩
  · exact .inl ⟨by simp, by simp, fun xf wq hk hbl hd K hK => by
      (try dsimp only)
      go_simp
      exact hK.out (.pointer (some ⟨w.heap.size + 1, 0, none⟩)) _ rfl (brefl _)⟩
  · exact .inl ⟨by simp, by simp, fun xf wq hk hbl hd K hK => by
      have dq1 : xf 1 = .pointer (some ⟨w.heap.size + 1, 0, none⟩) := hd ⟨1, .data⟩ (by simp) rfl
      have y : Blk wq (w.heap.size + 1) 38 #[.bool b', .slice A' n' c', .slice D' m' e', .bool b'', .slice A'' n'' c'', .slice D'' m'' e''] := hbl _ (List.Mem.tail _ (List.Mem.head _)) (by simp [Region.binds])
      obtain ⟨hcl0, hcl1, hcl2, hcl3, hcl4, hcl5⟩ := y.c6
      (try dsimp only); (try simp only [dq1])
      go_simp
      have hz := hK.out (.agg #[.bool b', .slice A' n' c', .slice D' m' e']) _ rfl (brefl _)
      simp only [dq1] at hz
      exact hz⟩
  · exact .inl ⟨by simp, by simp, fun xf wq hk hbl hd K hK => by
      have dq0 : xf 0 = .agg #[.bool b3, .slice A3 n3 c3, .slice A'3 n'3 c'3] := hd ⟨0, .data⟩ (by simp) rfl
      have dq2 : xf 2 = .agg #[.bool b', .slice A' n' c', .slice D' m' e'] := hd ⟨2, .data⟩ (by simp) rfl
      (try dsimp only); (try simp only [dq0, dq2])
      go_simp
      go_at_call 44
      (with_reducible refine (g_mul _ b3 A3 n3 c3 A'3 n'3 c'3 (tcos ((t))) (4 * (k) + 4) ?_ b' A' n' c' D' m' e' (q') (k') ?_ ?_ ?_ ?_ ?_).mono ?_); (exact (h3.keep hk).qz); (exact (h'.keep hk)); (first | omega | decide | assumption); (first | omega | decide | assumption); (first | omega | decide | assumption); (first | omega | decide | assumption); rintro e wr ⟨b7, A7, n7, c7, A'7, n'7, c'7, rfl, h7, hbr⟩
      have hz := hK.out _ _ ⟨b7, A7, n7, c7, A'7, n'7, c'7, rfl, h7⟩ hbr
      simp only [dq0, dq2] at hz
      exact hz⟩
  · exact .inl ⟨by simp, by simp, fun xf wq hk hbl hd K hK => by
      have y : Blk wq (g6_2) 24 #[.bool b4, .slice A4 n4 c4, .slice A'4 n'4 c'4] := hbl _ (List.Mem.tail _ (List.Mem.tail _ (List.Mem.tail _ (List.Mem.tail _ (List.Mem.head _))))) (by simp [Region.binds])
      obtain ⟨hcl0, hcl1, hcl2⟩ := y.c3
      (try dsimp only)
      go_simp
      exact hK.out (.agg #[.bool b4, .slice A4 n4 c4, .slice A'4 n'4 c'4]) _ rfl (brefl _)⟩
  · exact .inl ⟨by simp, by simp, fun xf wq hk hbl hd K hK => by
      (try dsimp only)
      go_simp
      exact hK.out (.pointer (some ⟨w.heap.size + 1, 3, none⟩)) _ rfl (brefl _)⟩
  · exact .inl ⟨by simp, by simp, fun xf wq hk hbl hd K hK => by
      have dq5 : xf 5 = .pointer (some ⟨w.heap.size + 1, 3, none⟩) := hd ⟨5, .data⟩ (by simp) rfl
      have y : Blk wq (w.heap.size + 1) 38 #[.bool b', .slice A' n' c', .slice D' m' e', .bool b'', .slice A'' n'' c'', .slice D'' m'' e''] := hbl _ (List.Mem.tail _ (List.Mem.head _)) (by simp [Region.binds])
      obtain ⟨hcl0, hcl1, hcl2, hcl3, hcl4, hcl5⟩ := y.c6
      (try dsimp only); (try simp only [dq5])
      go_simp
      have hz := hK.out (.agg #[.bool b'', .slice A'' n'' c'', .slice D'' m'' e'']) _ rfl (brefl _)
      simp only [dq5] at hz
      exact hz⟩
  · exact .inl ⟨by simp, by simp, fun xf wq hk hbl hd K hK => by
      have dq4 : xf 4 = .agg #[.bool b4, .slice A4 n4 c4, .slice A'4 n'4 c'4] := hd ⟨4, .data⟩ (by simp) rfl
      have dq6 : xf 6 = .agg #[.bool b'', .slice A'' n'' c'', .slice D'' m'' e''] := hd ⟨6, .data⟩ (by simp) rfl
      (try dsimp only); (try simp only [dq4, dq6])
      go_simp
      go_at_call 44
      (with_reducible refine (g_mul _ b4 A4 n4 c4 A'4 n'4 c'4 (tsin ((t))) (4 * (k) + 4) ?_ b'' A'' n'' c'' D'' m'' e'' (q'') (k'') ?_ ?_ ?_ ?_ ?_).mono ?_); (exact (h4.keep hk).qz); (exact (h''.keep hk)); (first | omega | decide | assumption); (first | omega | decide | assumption); (first | omega | decide | assumption); (first | omega | decide | assumption); rintro e wr ⟨b8, A8, n8, c8, A'8, n'8, c'8, rfl, h8, hbr⟩
      have hz := hK.out _ _ ⟨b8, A8, n8, c8, A'8, n'8, c'8, rfl, h8⟩ hbr
      simp only [dq4, dq6] at hz
      exact hz⟩
  · exact .inl ⟨by simp, by simp, fun xf wq hk hbl hd K hK => by
      obtain ⟨b7, A7, n7, c7, A'7, n'7, c'7, dq3, h7⟩ : VQ ((tcos ((t))) * (q')) ((4 * (k) + 4) + (k')) (xf 3) wq := hd ⟨3, .data⟩ (by simp) rfl
      obtain ⟨b8, A8, n8, c8, A'8, n'8, c'8, dq7, h8⟩ : VQ ((tsin ((t))) * (q'')) ((4 * (k) + 4) + (k'')) (xf 7) wq := hd ⟨7, .data⟩ (by simp) rfl
      (try dsimp only); (try simp only [dq3, dq7])
      go_simp
      go_at_call 43
      (with_reducible refine (g_sub _ b7 A7 n7 c7 A'7 n'7 c'7 ((tcos ((t))) * (q')) ((4 * (k) + 4) + (k')) ?_ b8 A8 n8 c8 A'8 n'8 c'8 ((tsin ((t))) * (q'')) ((4 * (k) + 4) + (k'')) ?_ ?_ ?_ ?_ ?_).mono ?_); (exact h7.qz); (exact h8.qz); (first | omega | decide | assumption); (first | omega | decide | assumption); (first | omega | decide | assumption); (first | omega | decide | assumption); rintro e wr ⟨b9, A9, n9, c9, A'9, n'9, c'9, rfl, h9, hbr⟩
      have hz := hK.out _ _ ⟨b9, A9, n9, c9, A'9, n'9, c'9, rfl, h9⟩ hbr
      simp only [dq3, dq7] at hz
      exact hz⟩
  · exact .inl ⟨by simp, by simp, fun xf wq hk hbl hd K hK => by
      have y : Blk wq (g6_2) 24 #[.bool b4, .slice A4 n4 c4, .slice A'4 n'4 c'4] := hbl _ (List.Mem.tail _ (List.Mem.tail _ (List.Mem.tail _ (List.Mem.tail _ (List.Mem.head _))))) (by simp [Region.binds])
      obtain ⟨hcl0, hcl1, hcl2⟩ := y.c3
      (try dsimp only)
      go_simp
      exact hK.out (.agg #[.bool b4, .slice A4 n4 c4, .slice A'4 n'4 c'4]) _ rfl (brefl _)⟩
  · exact .inl ⟨by simp, by simp, fun xf wq hk hbl hd K hK => by
      (try dsimp only)
      go_simp
      exact hK.out (.pointer (some ⟨w.heap.size + 1, 0, none⟩)) _ rfl (brefl _)⟩
  · exact .inl ⟨by simp, by simp, fun xf wq hk hbl hd K hK => by
      have dq10 : xf 10 = .pointer (some ⟨w.heap.size + 1, 0, none⟩) := hd ⟨10, .data⟩ (by simp) rfl
      have y : Blk wq (w.heap.size + 1) 38 #[.bool b', .slice A' n' c', .slice D' m' e', .bool b'', .slice A'' n'' c'', .slice D'' m'' e''] := hbl _ (List.Mem.tail _ (List.Mem.head _)) (by simp [Region.binds])
      obtain ⟨hcl0, hcl1, hcl2, hcl3, hcl4, hcl5⟩ := y.c6
      (try dsimp only); (try simp only [dq10])
      go_simp
      have hz := hK.out (.agg #[.bool b', .slice A' n' c', .slice D' m' e']) _ rfl (brefl _)
      simp only [dq10] at hz
      exact hz⟩
  · exact .inl ⟨by simp, by simp, fun xf wq hk hbl hd K hK => by
      have dq9 : xf 9 = .agg #[.bool b4, .slice A4 n4 c4, .slice A'4 n'4 c'4] := hd ⟨9, .data⟩ (by simp) rfl
      have dq11 : xf 11 = .agg #[.bool b', .slice A' n' c', .slice D' m' e'] := hd ⟨11, .data⟩ (by simp) rfl
      (try dsimp only); (try simp only [dq9, dq11])
      go_simp
      go_at_call 44
      (with_reducible refine (g_mul _ b4 A4 n4 c4 A'4 n'4 c'4 (tsin ((t))) (4 * (k) + 4) ?_ b' A' n' c' D' m' e' (q') (k') ?_ ?_ ?_ ?_ ?_).mono ?_); (exact (h4.keep hk).qz); (exact (h'.keep hk)); (first | omega | decide | assumption); (first | omega | decide | assumption); (first | omega | decide | assumption); (first | omega | decide | assumption); rintro e wr ⟨b10, A10, n10, c10, A'10, n'10, c'10, rfl, h10, hbr⟩
      have hz := hK.out _ _ ⟨b10, A10, n10, c10, A'10, n'10, c'10, rfl, h10⟩ hbr
      simp only [dq9, dq11] at hz
      exact hz⟩
  · exact .inl ⟨by simp, by simp, fun xf wq hk hbl hd K hK => by
      have y : Blk wq (g5_2) 24 #[.bool b3, .slice A3 n3 c3, .slice A'3 n'3 c'3] := hbl _ (List.Mem.tail _ (List.Mem.tail _ (List.Mem.tail _ (List.Mem.head _)))) (by simp [Region.binds])
      obtain ⟨hcl0, hcl1, hcl2⟩ := y.c3
      (try dsimp only)
      go_simp
      exact hK.out (.agg #[.bool b3, .slice A3 n3 c3, .slice A'3 n'3 c'3]) _ rfl (brefl _)⟩
  · exact .inl ⟨by simp, by simp, fun xf wq hk hbl hd K hK => by
      (try dsimp only)
      go_simp
      exact hK.out (.pointer (some ⟨w.heap.size + 1, 3, none⟩)) _ rfl (brefl _)⟩
  · exact .inl ⟨by simp, by simp, fun xf wq hk hbl hd K hK => by
      have dq14 : xf 14 = .pointer (some ⟨w.heap.size + 1, 3, none⟩) := hd ⟨14, .data⟩ (by simp) rfl
      have y : Blk wq (w.heap.size + 1) 38 #[.bool b', .slice A' n' c', .slice D' m' e', .bool b'', .slice A'' n'' c'', .slice D'' m'' e''] := hbl _ (List.Mem.tail _ (List.Mem.head _)) (by simp [Region.binds])
      obtain ⟨hcl0, hcl1, hcl2, hcl3, hcl4, hcl5⟩ := y.c6
      (try dsimp only); (try simp only [dq14])
      go_simp
      have hz := hK.out (.agg #[.bool b'', .slice A'' n'' c'', .slice D'' m'' e'']) _ rfl (brefl _)
      simp only [dq14] at hz
      exact hz⟩
  · exact .inl ⟨by simp, by simp, fun xf wq hk hbl hd K hK => by
      have dq13 : xf 13 = .agg #[.bool b3, .slice A3 n3 c3, .slice A'3 n'3 c'3] := hd ⟨13, .data⟩ (by simp) rfl
      have dq15 : xf 15 = .agg #[.bool b'', .slice A'' n'' c'', .slice D'' m'' e''] := hd ⟨15, .data⟩ (by simp) rfl
      (try dsimp only); (try simp only [dq13, dq15])
      go_simp
      go_at_call 44
      (with_reducible refine (g_mul _ b3 A3 n3 c3 A'3 n'3 c'3 (tcos ((t))) (4 * (k) + 4) ?_ b'' A'' n'' c'' D'' m'' e'' (q'') (k'') ?_ ?_ ?_ ?_ ?_).mono ?_); (exact (h3.keep hk).qz); (exact (h''.keep hk)); (first | omega | decide | assumption); (first | omega | decide | assumption); (first | omega | decide | assumption); (first | omega | decide | assumption); rintro e wr ⟨b11, A11, n11, c11, A'11, n'11, c'11, rfl, h11, hbr⟩
      have hz := hK.out _ _ ⟨b11, A11, n11, c11, A'11, n'11, c'11, rfl, h11⟩ hbr
      simp only [dq13, dq15] at hz
      exact hz⟩
  · exact .inl ⟨by simp, by simp, fun xf wq hk hbl hd K hK => by
      obtain ⟨b10, A10, n10, c10, A'10, n'10, c'10, dq12, h10⟩ : VQ ((tsin ((t))) * (q')) ((4 * (k) + 4) + (k')) (xf 12) wq := hd ⟨12, .data⟩ (by simp) rfl
      obtain ⟨b11, A11, n11, c11, A'11, n'11, c'11, dq16, h11⟩ : VQ ((tcos ((t))) * (q'')) ((4 * (k) + 4) + (k'')) (xf 16) wq := hd ⟨16, .data⟩ (by simp) rfl
      (try dsimp only); (try simp only [dq12, dq16])
      go_simp
      go_at_call 45
      (with_reducible refine (g_add _ b10 A10 n10 c10 A'10 n'10 c'10 ((tsin ((t))) * (q')) ((4 * (k) + 4) + (k')) ?_ b11 A11 n11 c11 A'11 n'11 c'11 ((tcos ((t))) * (q'')) ((4 * (k) + 4) + (k'')) ?_ ?_ ?_ ?_ ?_).mono ?_); (exact h10.qz); (exact h11.qz); (first | omega | decide | assumption); (first | omega | decide | assumption); (first | omega | decide | assumption); (first | omega | decide | assumption); rintro e wr ⟨b12, A12, n12, c12, A'12, n'12, c'12, rfl, h12, hbr⟩
      have hz := hK.out _ _ ⟨b12, A12, n12, c12, A'12, n'12, c'12, rfl, h12⟩ hbr
      simp only [dq12, dq16] at hz
      exact hz⟩
  · exact .inl ⟨by simp, by simp, fun xf wq hk hbl hd K hK => by
      obtain ⟨b9, A9, n9, c9, A'9, n'9, c'9, dq8, h9⟩ : VQ (((tcos ((t))) * (q')) - ((tsin ((t))) * (q''))) (((4 * (k) + 4) + (k')) + ((4 * (k) + 4) + (k'')) + 1) (xf 8) wq := hd ⟨8, .data⟩ (by simp) rfl
      obtain ⟨b12, A12, n12, c12, A'12, n'12, c'12, dq17, h12⟩ : VQ (((tsin ((t))) * (q')) + ((tcos ((t))) * (q''))) (((4 * (k) + 4) + (k')) + ((4 * (k) + 4) + (k'')) + 1) (xf 17) wq := hd ⟨17, .data⟩ (by simp) rfl
      (try dsimp only); (try simp only [dq8, dq17])
      go_simp
      have hz := hK.out _ _ ⟨b9, A9, n9, c9, A'9, n'9, c'9, b12, A12, n12, c12, A'12, n'12, c'12, rfl, h9, h12⟩ (brefl _)
      simp only [dq8, dq17] at hz
      exact hz⟩
  · exact .inr (.inr (.inr ⟨⟨w.heap.size + 1 + 1, 19, 0, 38, #[.bool false, .slice none 0 0, .slice none 0 0, .bool false, .slice none 0 0, .slice none 0 0], CP (((tcos ((t))) * (q')) - ((tsin ((t))) * (q''))) (((4 * (k) + 4) + (k')) + ((4 * (k) + 4) + (k'')) + 1) (((tsin ((t))) * (q')) + ((tcos ((t))) * (q''))) (((4 * (k) + 4) + (k')) + ((4 * (k) + 4) + (k'')) + 1)⟩, by simp, rfl, by simp, by simp, (show KT 38 = false by decide), fun _ _ => True.intro, fun xf wq hblk hd => by
      obtain ⟨b9, A9, n9, c9, A'9, n'9, c'9, b12, A12, n12, c12, A'12, n'12, c'12, dq18, hB6_18⟩ : VP (((tcos ((t))) * (q')) - ((tsin ((t))) * (q''))) (((4 * (k) + 4) + (k')) + ((4 * (k) + 4) + (k'')) + 1) (((tsin ((t))) * (q')) + ((tcos ((t))) * (q''))) (((4 * (k) + 4) + (k')) + ((4 * (k) + 4) + (k'')) + 1) (xf 18) wq := hd ⟨18, .data⟩ (by simp) rfl
      dsimp only at hblk
      refine ⟨[.bool b9, .slice A9 n9 c9, .slice A'9 n'9 c'9, .bool b12, .slice A12 n12 c12, .slice A'12 n'12 c'12], fun w' hk => ⟨b9, A9, n9, c9, A'9, n'9, c'9, b12, A12, n12, c12, A'12, n'12, c'12, rfl, hB6_18.keep hk⟩, fun K hK => ?_⟩
      have hc0 : wq.cell? ⟨w.heap.size + 1 + 1, 0, none⟩ = some (.bool false) := hblk.cell 0
      have hc1 : wq.cell? ⟨w.heap.size + 1 + 1, 1, none⟩ = some (.slice none 0 0) := hblk.cell 1
      have hc2 : wq.cell? ⟨w.heap.size + 1 + 1, 2, none⟩ = some (.slice none 0 0) := hblk.cell 2
      have hc3 : wq.cell? ⟨w.heap.size + 1 + 1, 3, none⟩ = some (.bool false) := hblk.cell 3
      have hc4 : wq.cell? ⟨w.heap.size + 1 + 1, 4, none⟩ = some (.slice none 0 0) := hblk.cell 4
      have hc5 : wq.cell? ⟨w.heap.size + 1 + 1, 5, none⟩ = some (.slice none 0 0) := hblk.cell 5
      have hf0 : wq.frozen? ⟨w.heap.size + 1 + 1, 0, none⟩ = false := hblk.frozen 0
      have hf1 : wq.frozen? ⟨w.heap.size + 1 + 1, 1, none⟩ = false := hblk.frozen 1
      have hf2 : wq.frozen? ⟨w.heap.size + 1 + 1, 2, none⟩ = false := hblk.frozen 2
      have hf3 : wq.frozen? ⟨w.heap.size + 1 + 1, 3, none⟩ = false := hblk.frozen 3
      have hf4 : wq.frozen? ⟨w.heap.size + 1 + 1, 4, none⟩ = false := hblk.frozen 4
      have hf5 : wq.frozen? ⟨w.heap.size + 1 + 1, 5, none⟩ = false := hblk.frozen 5
      (try dsimp only)
      simp only [dq18]
      go_simp
      have hz := hK.out undef
      simp only [dq18] at hz
      exact hz⟩))
  clear cz2_1_0 cz2_1_1 cz2_1_2 cz2_1_3 cz2_1_4 cz2_1_5 lz2_1_0 lz2_1_1 lz2_1_2 lz2_1_3 cxg5_2_0 cxg5_2_1 cxg5_2_2 lxg5_2_0 lxg5_2_1 lxg5_2_2 lxg5_2_3 cxg6_2_0 cxg6_2_1 cxg6_2_2 lxg6_2_0 lxg6_2_1 lxg6_2_2 lxg6_2_3
  intro y6 w6 kq6 hbl6 lw6 how hrr hfl hds
  replace h := h.keep kq6
  replace h' := h'.keep kq6
  replace h'' := h''.keep kq6
  replace h3 := h3.keep kq6
  replace h4 := h4.keep kq6
  obtain ⟨_, z6_0, ez, _⟩ := how _ (List.Mem.head _)
  obtain rfl := ez (by simp)
  dsimp only at z6_0
  obtain ⟨_, z6_1, ez, _⟩ := how _ (List.Mem.tail _ (List.Mem.head _))
  obtain rfl := ez (by simp)
  dsimp only at z6_1
  obtain ⟨_, z6_2, _, ez⟩ := how _ (List.Mem.tail _ (List.Mem.tail _ (List.Mem.head _)))
  obtain ⟨b9, A9, n9, c9, A'9, n'9, c'9, b12, A12, n12, c12, A'12, n'12, c'12, rfl, hB6_18⟩ := ez (by simp)
  dsimp only at z6_2
  obtain ⟨_, z6_3, ez, _⟩ := how _ (List.Mem.tail _ (List.Mem.tail _ (List.Mem.tail _ (List.Mem.head _))))
  obtain rfl := ez (by simp)
  dsimp only at z6_3
  obtain ⟨_, z6_4, ez, _⟩ := how _ (List.Mem.tail _ (List.Mem.tail _ (List.Mem.tail _ (List.Mem.tail _ (List.Mem.head _)))))
  obtain rfl := ez (by simp)
  dsimp only at z6_4
  (try dsimp only)
  clear hrr hfl how hds 
  clear z2_0 z2_1 z2_2 xg5_2 xg6_2
  have bw6 : Below w.heap.size w w6 := bw2.trans hbl6
  clear bw2
  have cz6_2_0 : w6.cell? ⟨w.heap.size + 1 + 1, 0, none⟩ = some (.bool b9) := z6_2.cell 0
  have cz6_2_1 : w6.cell? ⟨w.heap.size + 1 + 1, 1, none⟩ = some (.slice A9 n9 c9) := z6_2.cell 1
  have cz6_2_2 : w6.cell? ⟨w.heap.size + 1 + 1, 2, none⟩ = some (.slice A'9 n'9 c'9) := z6_2.cell 2
  have cz6_2_3 : w6.cell? ⟨w.heap.size + 1 + 1, 3, none⟩ = some (.bool b12) := z6_2.cell 3
  have cz6_2_4 : w6.cell? ⟨w.heap.size + 1 + 1, 4, none⟩ = some (.slice A12 n12 c12) := z6_2.cell 4
  have cz6_2_5 : w6.cell? ⟨w.heap.size + 1 + 1, 5, none⟩ = some (.slice A'12 n'12 c'12) := z6_2.cell 5
  obtain ⟨lz6_2_0, lz6_2_1, lz6_2_2, lz6_2_3⟩ := lts2 z6_2.lt
  go_wp2_with fail
  refine bodyPost_ret (v := .agg #[.bool b9, .slice A9 n9 c9, .slice A'9 n'9 c'9, .bool b12, .slice A12 n12 c12, .slice A'12 n'12 c'12]) (by simp [results, Tryz.results15, go_sem, *] <;> first | rfl | exact ⟨rfl, rfl⟩) rfl ?_
  have kp := (Kp.refl w6)
  exact ⟨b9, A9, n9, c9, A'9, n'9, c'9, b12, A12, n12, c12, A'12, n'12, c'12, rfl, (hB6_18.1.keep kp).mono (by omega), (hB6_18.2.keep kp).mono (by omega), bw6⟩
end Go.Proofs.YtmneloabphplmaaGreat

/- Walks: comparison of turns; the turn of a cosine and a sine. -/
namespace Go.Proofs.YtmneloabphplmaaGreat
open Go Go.RowKit Bn
attribute [local go_sem ↓] Go.wp_at_zero Go.wp_at_succ
theorem t_part_e (w : World) (b : Bool) (A : Option Addr) (n c : Nat) (D : Option Addr) (m e : Nat) (x : Bool) (t : TN) (k : Nat) (h : TK w b A n c D m e x t k) (s : Int) (hs : tpart t = s) (h0 : 0 < k) (hk : k ≤ 1000000) : Calls Tryz.prog 53 #[.agg #[.bool b, .slice A n c, .slice D m e, .bool x]] w (RetV w (.int .i64 s)) := by subst hs; exact t_part w b A n c D m e x t k h h0 hk
theorem cmpI_rcmp (a b : Rat) : cmpI (a.num * b.den) (b.num * a.den) = rcmp a b := by
  unfold cmpI rcmp
  have h := cmp_q a b
  by_cases h1 : a < b
  · rw [if_pos h1, if_pos (h.1.2 h1)]
  · rw [if_neg h1, if_neg (fun x => h1 (h.1.1 x))]
    by_cases h2 : a = b
    · rw [if_pos h2, if_pos (h.2.2 h2)]
    · rw [if_neg h2, if_neg (fun x => h2 (h.2.1 x))]
set_option maxRecDepth 100000 in
set_option maxHeartbeats 2000000 in
/-- turn.compare -/
theorem t_compare_lt (w : World) (b : Bool) (A : Option Addr) (n c : Nat) (D : Option Addr) (m e : Nat) (x : Bool) (t : TN) (k : Nat) (h : TK w b A n c D m e x t k) (b' : Bool) (A' : Option Addr) (n' c' : Nat) (D' : Option Addr) (m' e' : Nat) (x' : Bool) (t' : TN) (k' : Nat) (h' : TK w b' A' n' c' D' m' e' x' t' k') (h0 : 0 < k) (hk : k ≤ 1000000) (h0' : 0 < k') (hk' : k' ≤ 1000000) (hp : tpart t < tpart t') :
    Calls Tryz.prog 26 #[.agg #[.bool b, .slice A n c, .slice D m e, .bool x], .agg #[.bool b', .slice A' n' c', .slice D' m' e', .bool x']] w (RetV w (.int .i64 (-1))) := by
  obtain ⟨s, hs⟩ : ∃ s, tpart t = s := ⟨_, rfl⟩
  obtain ⟨s', hs'⟩ : ∃ s, tpart t' = s := ⟨_, rfl⟩
  rw [hs, hs'] at hp
  have e1 : decide (s < s') = true := by simp; omega
  have HS := Lib.hid hs
  have HS' := Lib.hid hs'
  clear hs hs' hp
  go_enter Tryz.func26, Tryz.ntmps26
  go_wp2_with fail
  have p1 : Kp w ((w.alloc (.cells #[.bool b, .slice A n c, .slice D m e, .bool x] 26)).alloc (.cells #[.bool b', .slice A' n' c', .slice D' m' e', .bool x'] 26)) := (((Kp.refl w).alloc (.cells #[.bool b, .slice A n c, .slice D m e, .bool x] 26)).alloc (.cells #[.bool b', .slice A' n' c', .slice D' m' e', .bool x'] 26))
  have bw1 : Below w.heap.size w ((w.alloc (.cells #[.bool b, .slice A n c, .slice D m e, .bool x] 26)).alloc (.cells #[.bool b', .slice A' n' c', .slice D' m' e', .bool x'] 26)) := (((brefl w).alloc (by first | omega | (simp <;> omega)) (.cells #[.bool b, .slice A n c, .slice D m e, .bool x] 26)).alloc (by first | omega | (simp <;> omega)) (.cells #[.bool b', .slice A' n' c', .slice D' m' e', .bool x'] 26))
  have x1_0 : Blk ((w.alloc (.cells #[.bool b, .slice A n c, .slice D m e, .bool x] 26)).alloc (.cells #[.bool b', .slice A' n' c', .slice D' m' e', .bool x'] 26)) (w.heap.size) 26 #[.bool b, .slice A n c, .slice D m e, .bool x] := ((blkAt _ _ _ (by simp)).alloc (.cells #[.bool b', .slice A' n' c', .slice D' m' e', .bool x'] 26))
  have x1_1 : Blk ((w.alloc (.cells #[.bool b, .slice A n c, .slice D m e, .bool x] 26)).alloc (.cells #[.bool b', .slice A' n' c', .slice D' m' e', .bool x'] 26)) (w.heap.size + 1) 26 #[.bool b', .slice A' n' c', .slice D' m' e', .bool x'] := (blkAt _ _ _ (by simp))
  have lw1 : w.heap.size + 2 ≤ ((w.alloc (.cells #[.bool b, .slice A n c, .slice D m e, .bool x] 26)).alloc (.cells #[.bool b', .slice A' n' c', .slice D' m' e', .bool x'] 26)).heap.size := by simp
  generalize hE1 : ((w.alloc (.cells #[.bool b, .slice A n c, .slice D m e, .bool x] 26)).alloc (.cells #[.bool b', .slice A' n' c', .slice D' m' e', .bool x'] 26)) = w1 at p1 bw1 lw1 x1_0 x1_1 ⊢
  clear hE1
  replace h := h.keep p1
  replace h' := h'.keep p1
  obtain ⟨cx1_0_0, cx1_0_1, cx1_0_2, cx1_0_3⟩ := x1_0.c4
  obtain ⟨lx1_0_0, lx1_0_1, lx1_0_2, lx1_0_3⟩ := lts0 x1_0.lt
  obtain ⟨cx1_1_0, cx1_1_1, cx1_1_2, cx1_1_3⟩ := x1_1.c4
  obtain ⟨lx1_1_0, lx1_1_1, lx1_1_2, lx1_1_3⟩ := lts1 x1_1.lt
  go_region_held3 (fun w' => Sees w1.heap.size w1 w') (first | with_reducible exact Sees.of (Nat.le_refl _) (by assumption) | with_reducible exact Sees.of (Nat.le_refl _) (brefl _).drew | exact Sees.of (Nat.le_refl _) (below_drewN (brefl _) 1) | exact Sees.of (Nat.le_refl _) (below_drewN (by assumption) _))
    (first
      | (go_at_call 53; (with_reducible refine (t_part_e _ b A n c D m e x (t) (k) ?_ s ?_ ?_ ?_).mono ?_); (exact h); (exact HS.out); (first | omega | decide | assumption); (first | omega | decide | assumption); rintro e w2 ⟨rfl, hb2⟩; replace hb2 := bnext (below_drewN (brefl _) 1) hb2; have q2 : Below w1.heap.size w1 w2 := bnext (brefl w1) hb2; replace h := h.belw hb2; replace h' := h'.belw hb2)
      | (go_at_call 53; (with_reducible refine (t_part_e _ b' A' n' c' D' m' e' x' (t') (k') ?_ s' ?_ ?_ ?_).mono ?_); (exact h'); (exact HS'.out); (first | omega | decide | assumption); (first | omega | decide | assumption); rintro e w3 ⟨rfl, hb3⟩; have q3 : Below w1.heap.size w1 w3 := bnext q2 hb3; replace h := h.belw hb3; replace h' := h'.belw hb3))
  have bw3 : Below w.heap.size w w3 := bw1.trans (q3.mono bw1.size)
  clear cx1_0_0 cx1_0_1 cx1_0_2 cx1_0_3 lx1_0_0 lx1_0_1 lx1_0_2 lx1_0_3 cx1_1_0 cx1_1_1 cx1_1_2 cx1_1_3 lx1_1_0 lx1_1_1 lx1_1_2 lx1_1_3
  replace x1_0 := x1_0.below q3 x1_0.lt
  replace x1_1 := x1_1.below q3 x1_1.lt
  have lw3 : w1.heap.size ≤ w3.heap.size := q3.size
  go_wp2_with fail
  go_ret
  exact retI rfl bw3
set_option maxRecDepth 100000 in
set_option maxHeartbeats 2000000 in
/-- turn.compare -/
theorem t_compare_gt (w : World) (b : Bool) (A : Option Addr) (n c : Nat) (D : Option Addr) (m e : Nat) (x : Bool) (t : TN) (k : Nat) (h : TK w b A n c D m e x t k) (b' : Bool) (A' : Option Addr) (n' c' : Nat) (D' : Option Addr) (m' e' : Nat) (x' : Bool) (t' : TN) (k' : Nat) (h' : TK w b' A' n' c' D' m' e' x' t' k') (h0 : 0 < k) (hk : k ≤ 1000000) (h0' : 0 < k') (hk' : k' ≤ 1000000) (hp : tpart t' < tpart t) :
    Calls Tryz.prog 26 #[.agg #[.bool b, .slice A n c, .slice D m e, .bool x], .agg #[.bool b', .slice A' n' c', .slice D' m' e', .bool x']] w (RetV w (.int .i64 1)) := by
  obtain ⟨s, hs⟩ : ∃ s, tpart t = s := ⟨_, rfl⟩
  obtain ⟨s', hs'⟩ : ∃ s, tpart t' = s := ⟨_, rfl⟩
  rw [hs, hs'] at hp
  have e1 : decide (s < s') = false := by simp; omega
  have e2 : decide (s' < s) = true := by simp; omega
  have HS := Lib.hid hs
  have HS' := Lib.hid hs'
  clear hs hs' hp
  go_enter Tryz.func26, Tryz.ntmps26
  go_wp2_with fail
  have p1 : Kp w ((w.alloc (.cells #[.bool b, .slice A n c, .slice D m e, .bool x] 26)).alloc (.cells #[.bool b', .slice A' n' c', .slice D' m' e', .bool x'] 26)) := (((Kp.refl w).alloc (.cells #[.bool b, .slice A n c, .slice D m e, .bool x] 26)).alloc (.cells #[.bool b', .slice A' n' c', .slice D' m' e', .bool x'] 26))
  have bw1 : Below w.heap.size w ((w.alloc (.cells #[.bool b, .slice A n c, .slice D m e, .bool x] 26)).alloc (.cells #[.bool b', .slice A' n' c', .slice D' m' e', .bool x'] 26)) := (((brefl w).alloc (by first | omega | (simp <;> omega)) (.cells #[.bool b, .slice A n c, .slice D m e, .bool x] 26)).alloc (by first | omega | (simp <;> omega)) (.cells #[.bool b', .slice A' n' c', .slice D' m' e', .bool x'] 26))
  have x1_0 : Blk ((w.alloc (.cells #[.bool b, .slice A n c, .slice D m e, .bool x] 26)).alloc (.cells #[.bool b', .slice A' n' c', .slice D' m' e', .bool x'] 26)) (w.heap.size) 26 #[.bool b, .slice A n c, .slice D m e, .bool x] := ((blkAt _ _ _ (by simp)).alloc (.cells #[.bool b', .slice A' n' c', .slice D' m' e', .bool x'] 26))
  have x1_1 : Blk ((w.alloc (.cells #[.bool b, .slice A n c, .slice D m e, .bool x] 26)).alloc (.cells #[.bool b', .slice A' n' c', .slice D' m' e', .bool x'] 26)) (w.heap.size + 1) 26 #[.bool b', .slice A' n' c', .slice D' m' e', .bool x'] := (blkAt _ _ _ (by simp))
  have lw1 : w.heap.size + 2 ≤ ((w.alloc (.cells #[.bool b, .slice A n c, .slice D m e, .bool x] 26)).alloc (.cells #[.bool b', .slice A' n' c', .slice D' m' e', .bool x'] 26)).heap.size := by simp
  generalize hE1 : ((w.alloc (.cells #[.bool b, .slice A n c, .slice D m e, .bool x] 26)).alloc (.cells #[.bool b', .slice A' n' c', .slice D' m' e', .bool x'] 26)) = w1 at p1 bw1 lw1 x1_0 x1_1 ⊢
  clear hE1
  replace h := h.keep p1
  replace h' := h'.keep p1
  obtain ⟨cx1_0_0, cx1_0_1, cx1_0_2, cx1_0_3⟩ := x1_0.c4
  obtain ⟨lx1_0_0, lx1_0_1, lx1_0_2, lx1_0_3⟩ := lts0 x1_0.lt
  obtain ⟨cx1_1_0, cx1_1_1, cx1_1_2, cx1_1_3⟩ := x1_1.c4
  obtain ⟨lx1_1_0, lx1_1_1, lx1_1_2, lx1_1_3⟩ := lts1 x1_1.lt
  go_region_held3 (fun w' => Sees w1.heap.size w1 w') (first | with_reducible exact Sees.of (Nat.le_refl _) (by assumption) | with_reducible exact Sees.of (Nat.le_refl _) (brefl _).drew | exact Sees.of (Nat.le_refl _) (below_drewN (brefl _) 1) | exact Sees.of (Nat.le_refl _) (below_drewN (by assumption) _))
    (first
      | (go_at_call 53; (with_reducible refine (t_part_e _ b A n c D m e x (t) (k) ?_ s ?_ ?_ ?_).mono ?_); (exact h); (exact HS.out); (first | omega | decide | assumption); (first | omega | decide | assumption); rintro e w2 ⟨rfl, hb2⟩; replace hb2 := bnext (below_drewN (brefl _) 1) hb2; have q2 : Below w1.heap.size w1 w2 := bnext (brefl w1) hb2; replace h := h.belw hb2; replace h' := h'.belw hb2)
      | (go_at_call 53; (with_reducible refine (t_part_e _ b' A' n' c' D' m' e' x' (t') (k') ?_ s' ?_ ?_ ?_).mono ?_); (exact h'); (exact HS'.out); (first | omega | decide | assumption); (first | omega | decide | assumption); rintro e w3 ⟨rfl, hb3⟩; have q3 : Below w1.heap.size w1 w3 := bnext q2 hb3; replace h := h.belw hb3; replace h' := h'.belw hb3))
  have bw3 : Below w.heap.size w w3 := bw1.trans (q3.mono bw1.size)
  clear cx1_0_0 cx1_0_1 cx1_0_2 cx1_0_3 lx1_0_0 lx1_0_1 lx1_0_2 lx1_0_3 cx1_1_0 cx1_1_1 cx1_1_2 cx1_1_3 lx1_1_0 lx1_1_1 lx1_1_2 lx1_1_3
  replace x1_0 := x1_0.below q3 x1_0.lt
  replace x1_1 := x1_1.below q3 x1_1.lt
  have lw3 : w1.heap.size ≤ w3.heap.size := q3.size
  go_wp2_with fail
  go_ret
  exact retI rfl bw3
set_option maxRecDepth 100000 in
set_option maxHeartbeats 2000000 in
/-- turn.compare -/
theorem t_compare_eq (w : World) (b : Bool) (A : Option Addr) (n c : Nat) (D : Option Addr) (m e : Nat) (x : Bool) (t : TN) (k : Nat) (h : TK w b A n c D m e x t k) (b' : Bool) (A' : Option Addr) (n' c' : Nat) (D' : Option Addr) (m' e' : Nat) (x' : Bool) (t' : TN) (k' : Nat) (h' : TK w b' A' n' c' D' m' e' x' t' k') (h0 : 0 < k) (hk : k ≤ 1000000) (h0' : 0 < k') (hk' : k' ≤ 1000000) (hp : tpart t = tpart t') :
    Calls Tryz.prog 26 #[.agg #[.bool b, .slice A n c, .slice D m e, .bool x], .agg #[.bool b', .slice A' n' c', .slice D' m' e', .bool x']] w (RetV w (.int .i64 (tcmp t t'))) := by
  obtain ⟨s, hs⟩ : ∃ s, tpart t = s := ⟨_, rfl⟩
  obtain ⟨s', hs'⟩ : ∃ s, tpart t' = s := ⟨_, rfl⟩
  have HR := Lib.hid (show cmpI (t.t.num * t'.t.den) (t'.t.num * t.t.den) = tcmp t t' by rw [cmpI_rcmp]; unfold tcmp; rw [if_neg (by omega), if_neg (by omega)])
  rw [hs, hs'] at hp
  have e1 : decide (s < s') = false := by simp; omega
  have e2 : decide (s' < s) = false := by simp; omega
  have HS := Lib.hid hs
  have HS' := Lib.hid hs'
  clear hs hs' hp
  go_enter Tryz.func26, Tryz.ntmps26
  go_wp2_with fail
  have p1 : Kp w ((w.alloc (.cells #[.bool b, .slice A n c, .slice D m e, .bool x] 26)).alloc (.cells #[.bool b', .slice A' n' c', .slice D' m' e', .bool x'] 26)) := (((Kp.refl w).alloc (.cells #[.bool b, .slice A n c, .slice D m e, .bool x] 26)).alloc (.cells #[.bool b', .slice A' n' c', .slice D' m' e', .bool x'] 26))
  have bw1 : Below w.heap.size w ((w.alloc (.cells #[.bool b, .slice A n c, .slice D m e, .bool x] 26)).alloc (.cells #[.bool b', .slice A' n' c', .slice D' m' e', .bool x'] 26)) := (((brefl w).alloc (by first | omega | (simp <;> omega)) (.cells #[.bool b, .slice A n c, .slice D m e, .bool x] 26)).alloc (by first | omega | (simp <;> omega)) (.cells #[.bool b', .slice A' n' c', .slice D' m' e', .bool x'] 26))
  have x1_0 : Blk ((w.alloc (.cells #[.bool b, .slice A n c, .slice D m e, .bool x] 26)).alloc (.cells #[.bool b', .slice A' n' c', .slice D' m' e', .bool x'] 26)) (w.heap.size) 26 #[.bool b, .slice A n c, .slice D m e, .bool x] := ((blkAt _ _ _ (by simp)).alloc (.cells #[.bool b', .slice A' n' c', .slice D' m' e', .bool x'] 26))
  have x1_1 : Blk ((w.alloc (.cells #[.bool b, .slice A n c, .slice D m e, .bool x] 26)).alloc (.cells #[.bool b', .slice A' n' c', .slice D' m' e', .bool x'] 26)) (w.heap.size + 1) 26 #[.bool b', .slice A' n' c', .slice D' m' e', .bool x'] := (blkAt _ _ _ (by simp))
  have lw1 : w.heap.size + 2 ≤ ((w.alloc (.cells #[.bool b, .slice A n c, .slice D m e, .bool x] 26)).alloc (.cells #[.bool b', .slice A' n' c', .slice D' m' e', .bool x'] 26)).heap.size := by simp
  generalize hE1 : ((w.alloc (.cells #[.bool b, .slice A n c, .slice D m e, .bool x] 26)).alloc (.cells #[.bool b', .slice A' n' c', .slice D' m' e', .bool x'] 26)) = w1 at p1 bw1 lw1 x1_0 x1_1 ⊢
  clear hE1
  replace h := h.keep p1
  replace h' := h'.keep p1
  obtain ⟨cx1_0_0, cx1_0_1, cx1_0_2, cx1_0_3⟩ := x1_0.c4
  obtain ⟨lx1_0_0, lx1_0_1, lx1_0_2, lx1_0_3⟩ := lts0 x1_0.lt
  obtain ⟨cx1_1_0, cx1_1_1, cx1_1_2, cx1_1_3⟩ := x1_1.c4
  obtain ⟨lx1_1_0, lx1_1_1, lx1_1_2, lx1_1_3⟩ := lts1 x1_1.lt
  go_region_held3 (fun w' => Sees w1.heap.size w1 w') (first | with_reducible exact Sees.of (Nat.le_refl _) (by assumption) | with_reducible exact Sees.of (Nat.le_refl _) (brefl _).drew | exact Sees.of (Nat.le_refl _) (below_drewN (brefl _) 1) | exact Sees.of (Nat.le_refl _) (below_drewN (by assumption) _))
    (first
      | (go_at_call 53; (with_reducible refine (t_part_e _ b A n c D m e x (t) (k) ?_ s ?_ ?_ ?_).mono ?_); (exact h); (exact HS.out); (first | omega | decide | assumption); (first | omega | decide | assumption); rintro e w2 ⟨rfl, hb2⟩; replace hb2 := bnext (below_drewN (brefl _) 1) hb2; have q2 : Below w1.heap.size w1 w2 := bnext (brefl w1) hb2; replace h := h.belw hb2; replace h' := h'.belw hb2)
      | (go_at_call 53; (with_reducible refine (t_part_e _ b' A' n' c' D' m' e' x' (t') (k') ?_ s' ?_ ?_ ?_).mono ?_); (exact h'); (exact HS'.out); (first | omega | decide | assumption); (first | omega | decide | assumption); rintro e w3 ⟨rfl, hb3⟩; have q3 : Below w1.heap.size w1 w3 := bnext q2 hb3; replace h := h.belw hb3; replace h' := h'.belw hb3))
  have bw3 : Below w.heap.size w w3 := bw1.trans (q3.mono bw1.size)
  clear cx1_0_0 cx1_0_1 cx1_0_2 cx1_0_3 lx1_0_0 lx1_0_1 lx1_0_2 lx1_0_3 cx1_1_0 cx1_1_1 cx1_1_2 cx1_1_3 lx1_1_0 lx1_1_1 lx1_1_2 lx1_1_3
  replace x1_0 := x1_0.below q3 x1_0.lt
  replace x1_1 := x1_1.below q3 x1_1.lt
  have lw3 : w1.heap.size ≤ w3.heap.size := q3.size
  obtain ⟨cx1_0_0, cx1_0_1, cx1_0_2, cx1_0_3⟩ := x1_0.c4
  obtain ⟨lx1_0_0, lx1_0_1, lx1_0_2, lx1_0_3⟩ := lts0 x1_0.lt
  obtain ⟨cx1_1_0, cx1_1_1, cx1_1_2, cx1_1_3⟩ := x1_1.c4
  obtain ⟨lx1_1_0, lx1_1_1, lx1_1_2, lx1_1_3⟩ := lts1 x1_1.lt
  go_wp2_with fail
  (with_reducible refine (f_cmp _ b A n c D m e ((t).t) (k) ?_ b' A' n' c' D' m' e' ((t').t) (k') ?_ ?_ ?_ ?_ ?_).mono ?_); (exact h.qz); (exact h'.qz); (first | omega | decide | assumption); (first | omega | decide | assumption); (first | omega | decide | assumption); (first | omega | decide | assumption); rintro e w4 ⟨rfl, hb4⟩
  clear cx1_0_0 cx1_0_1 cx1_0_2 cx1_0_3 lx1_0_0 lx1_0_1 lx1_0_2 lx1_0_3 cx1_1_0 cx1_1_1 cx1_1_2 cx1_1_3 lx1_1_0 lx1_1_1 lx1_1_2 lx1_1_3
  have q4 : Below w3.heap.size w3 w4 := hb4
  replace h := h.belw q4
  replace h' := h'.belw q4
  replace x1_0 := x1_0.below q4 x1_0.lt
  replace x1_1 := x1_1.below q4 x1_1.lt
  have bw4 : Below w.heap.size w w4 := bw3.trans (q4.mono bw3.size)
  have lw4 : w3.heap.size ≤ w4.heap.size := q4.size
  clear hb4 q4 bw3
  go_wp2_with fail
  go_ret
  exact retI HR.out bw4
theorem t_compare (w : World) (b : Bool) (A : Option Addr) (n c : Nat) (D : Option Addr) (m e : Nat) (x : Bool) (t : TN) (k : Nat) (h : TK w b A n c D m e x t k) (b' : Bool) (A' : Option Addr) (n' c' : Nat) (D' : Option Addr) (m' e' : Nat) (x' : Bool) (t' : TN) (k' : Nat) (h' : TK w b' A' n' c' D' m' e' x' t' k') (h0 : 0 < k) (hk : k ≤ 1000000) (h0' : 0 < k') (hk' : k' ≤ 1000000) : Calls Tryz.prog 26 #[.agg #[.bool b, .slice A n c, .slice D m e, .bool x], .agg #[.bool b', .slice A' n' c', .slice D' m' e', .bool x']] w (RetV w (.int .i64 (tcmp t t'))) := by
  rcases Int.lt_trichotomy (tpart t) (tpart t') with hp | hp | hp
  · have : tcmp t t' = -1 := by unfold tcmp; rw [if_pos hp]
    rw [this]; exact t_compare_lt w b A n c D m e x t k h b' A' n' c' D' m' e' x' t' k' h' h0 hk h0' hk' hp
  · exact t_compare_eq w b A n c D m e x t k h b' A' n' c' D' m' e' x' t' k' h' h0 hk h0' hk' hp
  · have : tcmp t t' = 1 := by unfold tcmp; rw [if_neg (by omega), if_pos hp]
    rw [this]; exact t_compare_gt w b A n c D m e x t k h b' A' n' c' D' m' e' x' t' k' h' h0 hk h0' hk' hp
end Go.Proofs.YtmneloabphplmaaGreat

/- Walks: comparison of turns that may be refused. -/
namespace Go.Proofs.YtmneloabphplmaaGreat
open Go Go.RowKit Bn
attribute [local go_sem ↓] Go.wp_at_zero Go.wp_at_succ
set_option maxRecDepth 100000 in
set_option maxHeartbeats 4000000 in
/-- turn.Cmp -/
theorem t_Cmp (w : World) (b : Bool) (A : Option Addr) (n c : Nat) (D : Option Addr) (m e : Nat) (x : Bool) (t : TN) (k : Nat) (h : TK w b A n c D m e x t k) (b' : Bool) (A' : Option Addr) (n' c' : Nat) (D' : Option Addr) (m' e' : Nat) (x' : Bool) (t' : TN) (k' : Nat) (h' : TK w b' A' n' c' D' m' e' x' t' k') (h0 : 0 < k) (hk : k ≤ 400000) (h0' : 0 < k') (hk' : k' ≤ 400000) :
    Calls Tryz.prog 12 #[.agg #[.bool b, .slice A n c, .slice D m e, .bool x], .agg #[.bool b', .slice A' n' c', .slice D' m' e', .bool x']] w (RetV w (.tuple #[.int .i64 (tcmp t t'), .nilIface])) := by
  go_enter Tryz.func12, Tryz.ntmps12
  go_wp2_with fail
  (with_reducible refine (t_checkAll _ (w.heap.size + 1 + 1) 2 ((k) + (k')) ?_ ?_ ?_ ?_).mono ?_); (exact ts2 (blkAt _ _ _ (by simp)) ((h.belw ((((Below.refl _ _).alloc (Nat.le_refl _) _).alloc (by simp) _).alloc (by simp <;> omega) _)).mono (by omega)) ((h'.belw ((((Below.refl _ _).alloc (Nat.le_refl _) _).alloc (by simp) _).alloc (by simp <;> omega) _)).mono (by omega))); (decide); (omega); (omega); rintro e w1 ⟨rfl, hb1⟩
  have q1 : Below w.heap.size w w1 := ((((Below.refl _ _).alloc (Nat.le_refl _) _).alloc (by simp) _).alloc (by simp <;> omega) _).trans (hb1.mono (by simp <;> omega))
  replace h := h.belw q1
  replace h' := h'.belw q1
  have x1_0 : Blk w1 (w.heap.size) 26 #[.bool b, .slice A n c, .slice D m e, .bool x] := (((blkAt _ _ _ (by simp)).alloc _).alloc _).below hb1 (by simp <;> omega)
  have x1_1 : Blk w1 (w.heap.size + 1) 26 #[.bool b', .slice A' n' c', .slice D' m' e', .bool x'] := ((blkAt _ _ _ (by simp)).alloc _).below hb1 (by simp <;> omega)
  have x1_2 : Blk w1 (w.heap.size + 1 + 1) 26 #[.bool b, .slice A n c, .slice D m e, .bool x, .bool b', .slice A' n' c', .slice D' m' e', .bool x'] := (blkAt _ _ _ (by simp)).below hb1 (by simp)
  have bw1 : Below w.heap.size w w1 := (brefl w).trans (q1.mono (brefl w).size)
  have lw1 : w.heap.size + 3 ≤ w1.heap.size := by have := hb1.size; simp at this; omega
  clear hb1 q1
  obtain ⟨cx1_0_0, cx1_0_1, cx1_0_2, cx1_0_3⟩ := x1_0.c4
  obtain ⟨lx1_0_0, lx1_0_1, lx1_0_2, lx1_0_3⟩ := lts0 x1_0.lt
  obtain ⟨cx1_1_0, cx1_1_1, cx1_1_2, cx1_1_3⟩ := x1_1.c4
  obtain ⟨lx1_1_0, lx1_1_1, lx1_1_2, lx1_1_3⟩ := lts1 x1_1.lt
  go_wp2_with fail
  (with_reducible refine (t_compare _ b A n c D m e x (t) (k) ?_ b' A' n' c' D' m' e' x' (t') (k') ?_ ?_ ?_ ?_ ?_).mono ?_); (exact h); (exact h'); (first | omega | decide | assumption); (first | omega | decide | assumption); (first | omega | decide | assumption); (first | omega | decide | assumption); rintro e w2 ⟨rfl, hb2⟩
  clear cx1_0_0 cx1_0_1 cx1_0_2 cx1_0_3 lx1_0_0 lx1_0_1 lx1_0_2 lx1_0_3 cx1_1_0 cx1_1_1 cx1_1_2 cx1_1_3 lx1_1_0 lx1_1_1 lx1_1_2 lx1_1_3
  have q2 : Below w1.heap.size w1 w2 := hb2
  replace h := h.belw q2
  replace h' := h'.belw q2
  replace x1_0 := x1_0.below q2 x1_0.lt
  replace x1_1 := x1_1.below q2 x1_1.lt
  replace x1_2 := x1_2.below q2 x1_2.lt
  have bw2 : Below w.heap.size w w2 := bw1.trans (q2.mono bw1.size)
  have lw2 : w1.heap.size ≤ w2.heap.size := q2.size
  clear hb2 q2 bw1
  go_wp2_with fail
  refine bodyPost_ret (v := .tuple #[.int .i64 (tcmp t t'), .nilIface]) (by simp [results, Tryz.results12, go_sem, *] <;> first | rfl | exact ⟨rfl, rfl⟩) rfl ?_
  exact ⟨rfl, bw2⟩
end Go.Proofs.YtmneloabphplmaaGreat

/- Walks: a turn between two. -/
namespace Go.Proofs.YtmneloabphplmaaGreat
open Go Go.RowKit Bn
attribute [local go_sem ↓] Go.wp_at_zero Go.wp_at_succ
set_option maxRecDepth 100000 in
set_option maxHeartbeats 4000000 in
/-- turn.Between -/
theorem t_Between_h (w : World) (b : Bool) (A : Option Addr) (n c : Nat) (D : Option Addr) (m e : Nat) (x : Bool) (t : TN) (k : Nat) (h : TK w b A n c D m e x t k) (b' : Bool) (A' : Option Addr) (n' c' : Nat) (D' : Option Addr) (m' e' : Nat) (x' : Bool) (t' : TN) (k' : Nat) (h' : TK w b' A' n' c' D' m' e' x' t' k') (h0 : 0 < k) (hk : k ≤ 50000) (h0' : 0 < k') (hk' : k' ≤ 50000) (hh : (tadd t' (tneg t)).h = true) :
    Calls Tryz.prog 13 #[.agg #[.bool b, .slice A n c, .slice D m e, .bool x], .agg #[.bool b', .slice A' n' c', .slice D' m' e', .bool x']] w (RetTe w .nilIface (tbetween t t') (6 * k + 4 * k' + 20)) := by
  have HT := Lib.hid (show tbetween t t' = tadd t ⟨1, false⟩ by unfold tbetween; rw [if_pos hh])
  have HH := Lib.hid hh
  clear hh
  go_enter Tryz.func13, Tryz.ntmps13
  go_wp2_with fail
  (with_reducible refine (t_checkAll _ (w.heap.size + 1 + 1 + 1) 2 ((k) + (k')) ?_ ?_ ?_ ?_).mono ?_); (exact ts2 (blkAt _ _ _ (by simp)) ((h.belw (((((Below.refl _ _).alloc (Nat.le_refl _) _).alloc (by simp) _).alloc (by simp <;> omega) _).alloc (by simp <;> omega) _)).mono (by omega)) ((h'.belw (((((Below.refl _ _).alloc (Nat.le_refl _) _).alloc (by simp) _).alloc (by simp <;> omega) _).alloc (by simp <;> omega) _)).mono (by omega))); (decide); (omega); (omega); rintro e w1 ⟨rfl, hb1⟩
  have q1 : Below w.heap.size w w1 := (((((Below.refl _ _).alloc (Nat.le_refl _) _).alloc (by simp) _).alloc (by simp <;> omega) _).alloc (by simp <;> omega) _).trans (hb1.mono (by simp <;> omega))
  replace h := h.belw q1
  replace h' := h'.belw q1
  have x1_0 : Blk w1 (w.heap.size) 26 #[.bool b, .slice A n c, .slice D m e, .bool x] := ((((blkAt _ _ _ (by simp)).alloc _).alloc _).alloc _).below hb1 (by simp <;> omega)
  have x1_1 : Blk w1 (w.heap.size + 1) 26 #[.bool b', .slice A' n' c', .slice D' m' e', .bool x'] := (((blkAt _ _ _ (by simp)).alloc _).alloc _).below hb1 (by simp <;> omega)
  have x1_2 : Blk w1 (w.heap.size + 1 + 1) 26 #[.bool false, .slice none 0 0, .slice none 0 0, .bool false] := ((blkAt _ _ _ (by simp)).alloc _).below hb1 (by simp <;> omega)
  have x1_3 : Blk w1 (w.heap.size + 1 + 1 + 1) 26 #[.bool b, .slice A n c, .slice D m e, .bool x, .bool b', .slice A' n' c', .slice D' m' e', .bool x'] := (blkAt _ _ _ (by simp)).below hb1 (by simp)
  have bw1 : Below w.heap.size w w1 := (brefl w).trans (q1.mono (brefl w).size)
  have lw1 : w.heap.size + 4 ≤ w1.heap.size := by have := hb1.size; simp at this; omega
  clear hb1 q1
  obtain ⟨cx1_0_0, cx1_0_1, cx1_0_2, cx1_0_3⟩ := x1_0.c4
  obtain ⟨lx1_0_0, lx1_0_1, lx1_0_2, lx1_0_3⟩ := lts0 x1_0.lt
  obtain ⟨cx1_1_0, cx1_1_1, cx1_1_2, cx1_1_3⟩ := x1_1.c4
  obtain ⟨lx1_1_0, lx1_1_1, lx1_1_2, lx1_1_3⟩ := lts1 x1_1.lt
  go_wp2_with fail
  refine wp_region_lin (B := w.heap.size) (fr := fun xf => ⟨List.toArray (.agg #[.bool b, .slice A n c, .slice D m e, .bool x] :: .agg #[.bool b', .slice A' n' c', .slice D' m' e', .bool x'] :: .pointer (some ⟨w.heap.size, 0, none⟩) :: .pointer (some ⟨w.heap.size + 1, 0, none⟩) :: .pointer (some ⟨w.heap.size + 1 + 1, 0, none⟩) :: .nilIface :: .nilIface :: xf 4 :: undef :: .agg #[.bool b, .slice A n c, .slice D m e, .bool x] :: .agg #[.bool b', .slice A' n' c', .slice D' m' e', .bool x'] :: .slice (some ⟨w.heap.size + 1 + 1 + 1, 0, none⟩) 2 2 :: .nilIface :: .nilIface :: .bool false :: undef :: undef :: xf 0 :: xf 1 :: xf 2 :: xf 3 :: undef :: undef :: undef :: undef :: undef :: undef :: undef :: undef :: undef :: undef :: undef :: undef :: undef :: undef :: undef :: undef :: undef :: undef :: undef :: []), []⟩) (R := fun i => List.getD ((PEq (.agg #[.bool b', .slice A' n' c', .slice D' m' e', .bool x'])) :: (PEq (.agg #[.bool b, .slice A n c, .slice D m e, .bool x])) :: (VT (tneg ((t))) ((k))) :: (VT (tadd ((t')) ((tneg ((t))))) (2 * ((k')) + 2 * (((k))) + 3)) :: PAny :: PAny :: []) i (fun _ _ => True)) (es := [⟨4, 5, 26, #[.bool false, .slice none 0 0, .slice none 0 0, .bool false], CT (tadd ((t')) ((tneg ((t))))) (2 * ((k')) + 2 * (((k))) + 3)⟩]) (ow := [⟨w.heap.size, 6, 0, 26, #[.bool b, .slice A n c, .slice D m e, .bool x], CAny⟩, ⟨w.heap.size + 1, 6, 0, 26, #[.bool b', .slice A' n' c', .slice D' m' e', .bool x'], CAny⟩, ⟨w.heap.size + 1 + 1, 6, 0, 26, #[.bool false, .slice none 0 0, .slice none 0 0, .bool false], CAny⟩, ⟨w.heap.size + 1 + 1 + 1, 6, 0, 26, #[.bool b, .slice A n c, .slice D m e, .bool x, .bool b', .slice A' n' c', .slice D' m' e', .bool x'], CAny⟩]) (x0 := (fun _ => undef)) (by kernel_rfl)
    (each_of ⟨fun _ _ => rfl, fun _ _ => rfl, fun _ _ => rfl, fun _ _ => rfl, fun _ _ => rfl, fun _ _ => rfl, trivial⟩) (each_of (acyc_from _ 0 (by kernel_rfl))) (AllStab.get _ ⟨stEq _, stEq _, stT _ _, stT _ _, stAny, stAny, trivial⟩)
    (List.forall_mem_cons.2 ⟨scT _ _, fun _ h => nomatch h⟩) (List.forall_mem_cons.2 ⟨scAny, List.forall_mem_cons.2 ⟨scAny, List.forall_mem_cons.2 ⟨scAny, List.forall_mem_cons.2 ⟨scAny, fun _ h => nomatch h⟩⟩⟩⟩) (List.forall_mem_cons.2 ⟨⟨by simp, by simp⟩, fun _ h => nomatch h⟩) bw1.size
    (List.forall_mem_cons.2 ⟨⟨x1_0, by show w.heap.size ≤ w.heap.size; omega⟩, List.forall_mem_cons.2 ⟨⟨x1_1, by show w.heap.size ≤ w.heap.size + 1; omega⟩, List.forall_mem_cons.2 ⟨⟨x1_2, by show w.heap.size ≤ w.heap.size + 1 + 1; omega⟩, List.forall_mem_cons.2 ⟨⟨x1_3, by show w.heap.size ≤ w.heap.size + 1 + 1 + 1; omega⟩, fun _ h => nomatch h⟩⟩⟩⟩) (ownDist (by simp <;> omega))
    (each_of ⟨?_, ?_, ?_, ?_, ?_, ?_, trivial⟩) ?_
  · exact .inl ⟨by simp, by simp, fun xf wq hk hbl hd K hK => by
      have y : Blk wq (w.heap.size + 1) 26 #[.bool b', .slice A' n' c', .slice D' m' e', .bool x'] := hbl _ (List.Mem.tail _ (List.Mem.head _)) (by simp [Region.binds])
      obtain ⟨hcl0, hcl1, hcl2, hcl3⟩ := y.c4
      (try dsimp only)
      go_simp
      exact hK.out (.agg #[.bool b', .slice A' n' c', .slice D' m' e', .bool x']) _ rfl (brefl _)⟩
  · exact .inl ⟨by simp, by simp, fun xf wq hk hbl hd K hK => by
      have y : Blk wq (w.heap.size) 26 #[.bool b, .slice A n c, .slice D m e, .bool x] := hbl _ (List.Mem.head _) (by simp [Region.binds])
      obtain ⟨hcl0, hcl1, hcl2, hcl3⟩ := y.c4
      (try dsimp only)
      go_simp
      exact hK.out (.agg #[.bool b, .slice A n c, .slice D m e, .bool x]) _ rfl (brefl _)⟩
  · exact .inl ⟨by simp, by simp, fun xf wq hk hbl hd K hK => by
      have d1 : xf 1 = .agg #[.bool b, .slice A n c, .slice D m e, .bool x] := hd ⟨1, .data⟩ (by simp) rfl
      (try dsimp only); (try simp only [d1])
      go_simp
      go_at_call 27
      (with_reducible refine (t_neg _ b A n c D m e x (t) (k) ?_ ?_ ?_).mono ?_); (exact (h.keep hk)); (first | omega | decide | assumption); (first | omega | decide | assumption); rintro e wr ⟨b3, A3, n3, c3, A'3, n'3, c'3, x3, rfl, h3, hbr⟩
      have hz := hK.out _ _ ⟨b3, A3, n3, c3, A'3, n'3, c'3, x3, rfl, h3⟩ hbr
      simp only [d1] at hz
      exact hz⟩
  · exact .inl ⟨by simp, by simp, fun xf wq hk hbl hd K hK => by
      have d0 : xf 0 = .agg #[.bool b', .slice A' n' c', .slice D' m' e', .bool x'] := hd ⟨0, .data⟩ (by simp) rfl
      obtain ⟨b3, A3, n3, c3, A'3, n'3, c'3, x3, d2, h3⟩ : VT (tneg ((t))) ((k)) (xf 2) wq := hd ⟨2, .data⟩ (by simp) rfl
      (try dsimp only); (try simp only [d0, d2])
      go_simp
      go_at_call 28
      (with_reducible refine (t_add _ b' A' n' c' D' m' e' x' (t') (k') ?_ b3 A3 n3 c3 A'3 n'3 c'3 x3 (tneg ((t))) ((k)) ?_ ?_ ?_ ?_ ?_).mono ?_); (exact (h'.keep hk)); (exact h3.tk); (first | omega | decide | assumption); (first | omega | decide | assumption); (first | omega | decide | assumption); (first | omega | decide | assumption); rintro e wr ⟨b4, A4, n4, c4, A'4, n'4, c'4, x4, rfl, h4, hbr⟩
      have hz := hK.out _ _ ⟨b4, A4, n4, c4, A'4, n'4, c'4, x4, rfl, h4⟩ hbr
      simp only [d0, d2] at hz
      exact hz⟩
  · exact .inr (.inl ⟨⟨4, 5, 26, #[.bool false, .slice none 0 0, .slice none 0 0, .bool false], CT (tadd ((t')) ((tneg ((t))))) (2 * ((k')) + 2 * (((k))) + 3)⟩, by simp, rfl, by simp, by simp, by simp, fun _ _ => True.intro, fun xf wq K hK => by
      (try dsimp only)
      go_simp
      exact hK.out⟩)
  · exact .inr (.inr (.inl ⟨⟨4, 5, 26, #[.bool false, .slice none 0 0, .slice none 0 0, .bool false], CT (tadd ((t')) ((tneg ((t))))) (2 * ((k')) + 2 * (((k))) + 3)⟩, by simp, rfl, by simp, by simp, by simp, by simp, (show KT 26 = false by decide), fun _ _ => True.intro, ⟨⟨4, .data⟩, by simp, rfl, rfl⟩, fun xf wq g hx hblk hd => by
      obtain ⟨b4, A4, n4, c4, A'4, n'4, c'4, x4, d3, h4⟩ : VT (tadd ((t')) ((tneg ((t))))) (2 * ((k')) + 2 * (((k))) + 3) (xf 3) wq := hd ⟨3, .data⟩ (by simp) rfl
      dsimp only at hx hblk
      refine ⟨[.bool b4, .slice A4 n4 c4, .slice A'4 n'4 c'4, .bool x4], fun w' hk => ⟨b4, A4, n4, c4, A'4, n'4, c'4, x4, rfl, h4.keep hk⟩, fun K hK => ?_⟩
      have hc0 : wq.cell? ⟨g, 0, none⟩ = some (.bool false) := hblk.cell 0
      have hc1 : wq.cell? ⟨g, 1, none⟩ = some (.slice none 0 0) := hblk.cell 1
      have hc2 : wq.cell? ⟨g, 2, none⟩ = some (.slice none 0 0) := hblk.cell 2
      have hc3 : wq.cell? ⟨g, 3, none⟩ = some (.bool false) := hblk.cell 3
      have hf0 : wq.frozen? ⟨g, 0, none⟩ = false := hblk.frozen 0
      have hf1 : wq.frozen? ⟨g, 1, none⟩ = false := hblk.frozen 1
      have hf2 : wq.frozen? ⟨g, 2, none⟩ = false := hblk.frozen 2
      have hf3 : wq.frozen? ⟨g, 3, none⟩ = false := hblk.frozen 3
      (try dsimp only)
      simp only [hx, d3]
      go_simp
      have hz := hK.out undef
      simp only [hx, d3] at hz
      exact hz⟩))
  clear cx1_0_0 cx1_0_1 cx1_0_2 cx1_0_3 lx1_0_0 lx1_0_1 lx1_0_2 lx1_0_3 cx1_1_0 cx1_1_1 cx1_1_2 cx1_1_3 lx1_1_0 lx1_1_1 lx1_1_2 lx1_1_3
  intro y2 w2 kq2 hbl2 lw2 how hrr hfl hds
  replace h := h.keep kq2
  replace h' := h'.keep kq2
  obtain ⟨_, z2_0, ez, _⟩ := how _ (List.Mem.head _)
  obtain rfl := ez (by simp)
  dsimp only at z2_0
  obtain ⟨_, z2_1, ez, _⟩ := how _ (List.Mem.tail _ (List.Mem.head _))
  obtain rfl := ez (by simp)
  dsimp only at z2_1
  obtain ⟨_, z2_2, ez, _⟩ := how _ (List.Mem.tail _ (List.Mem.tail _ (List.Mem.head _)))
  obtain rfl := ez (by simp)
  dsimp only at z2_2
  obtain ⟨_, z2_3, ez, _⟩ := how _ (List.Mem.tail _ (List.Mem.tail _ (List.Mem.tail _ (List.Mem.head _))))
  obtain rfl := ez (by simp)
  dsimp only at z2_3
  obtain ⟨g7_2, _, eg7_2, Gg7_2, xg7_2, ⟨b4, A4, n4, c4, A'4, n'4, c'4, x4, rfl, h4⟩⟩ := hfl _ (List.Mem.head _)
  dsimp only at eg7_2 Gg7_2 xg7_2
  have lgg7_2 : g7_2 < w2.heap.size := xg7_2.lt
  (try dsimp only)
  simp only [eg7_2]
  clear hrr hfl how hds eg7_2
  clear x1_0 x1_1 x1_2 x1_3
  have bw2 : Below w.heap.size w w2 := bw1.trans hbl2
  clear bw1
  go_wp2_with fail
  obtain rfl : x4 = true := h4.2.1.trans HH.out
  (with_reducible refine (t_half _).mono ?_); rintro e w6 ⟨b6, A6, n6, c6, A'6, n'6, c'6, x6, rfl, h6, hb6⟩
  have q6 : Below w2.heap.size w2 w6 := hb6
  replace h := h.belw q6
  replace h' := h'.belw q6
  replace h4 := h4.belw q6
  replace z2_0 := z2_0.below q6 z2_0.lt
  replace z2_1 := z2_1.below q6 z2_1.lt
  replace z2_2 := z2_2.below q6 z2_2.lt
  replace z2_3 := z2_3.below q6 z2_3.lt
  replace xg7_2 := xg7_2.below q6 xg7_2.lt
  have bw6 : Below w.heap.size w w6 := bw2.trans (q6.mono bw2.size)
  have lw6 : w2.heap.size ≤ w6.heap.size := q6.size
  clear hb6 q6 bw2
  obtain ⟨cxg7_2_0, cxg7_2_1, cxg7_2_2, cxg7_2_3⟩ := xg7_2.c4
  obtain ⟨lxg7_2_0, lxg7_2_1, lxg7_2_2, lxg7_2_3⟩ := lts0 xg7_2.lt
  go_wp2_with fail
  (with_reducible refine (f_of _ (1) ?_ ?_).mono ?_); (first | omega | decide | assumption); (first | omega | decide | assumption); rintro e w7 ⟨b7, A7, n7, c7, A'7, n'7, c'7, rfl, h7, hb7⟩
  clear cxg7_2_0 cxg7_2_1 cxg7_2_2 cxg7_2_3 lxg7_2_0 lxg7_2_1 lxg7_2_2 lxg7_2_3
  have q7 : Below w6.heap.size w6 w7 := ((Below.refl _ _).alloc (Nat.le_refl _) _).trans (hb7.mono (by simp))
  replace h := h.belw q7
  replace h' := h'.belw q7
  replace h4 := h4.belw q7
  replace h6 := h6.belw q7
  replace z2_0 := z2_0.below q7 z2_0.lt
  replace z2_1 := z2_1.below q7 z2_1.lt
  replace z2_2 := z2_2.below q7 z2_2.lt
  replace z2_3 := z2_3.below q7 z2_3.lt
  replace xg7_2 := xg7_2.below q7 xg7_2.lt
  have x7_0 : Blk w7 (w6.heap.size) 26 #[.bool b6, .slice A6 n6 c6, .slice A'6 n'6 c'6, .bool x6] := (blkAt _ _ _ (by simp)).below hb7 (by simp)
  have bw7 : Below w.heap.size w w7 := bw6.trans (q7.mono bw6.size)
  have lw7 : w6.heap.size + 1 ≤ w7.heap.size := by have := hb7.size; simp at this; omega
  clear hb7 q7 bw6
  obtain ⟨cz2_0_0, cz2_0_1, cz2_0_2, cz2_0_3⟩ := z2_0.c4
  obtain ⟨lz2_0_0, lz2_0_1, lz2_0_2, lz2_0_3⟩ := lts0 z2_0.lt
  obtain ⟨cx7_0_0, cx7_0_1, cx7_0_2, cx7_0_3⟩ := x7_0.c4
  obtain ⟨fx7_0_0, fx7_0_1, fx7_0_2, fx7_0_3⟩ := x7_0.f4
  obtain ⟨lx7_0_0, lx7_0_1, lx7_0_2, lx7_0_3⟩ := lts0 x7_0.lt
  go_wp2_with fail
  have hF := TV.frac h7
  clear cz2_0_0 cz2_0_1 cz2_0_2 cz2_0_3 lz2_0_0 lz2_0_1 lz2_0_2 lz2_0_3 cx7_0_0 fx7_0_0 cx7_0_1 fx7_0_1 cx7_0_2 fx7_0_2 cx7_0_3 fx7_0_3 lx7_0_0 lx7_0_1 lx7_0_2 lx7_0_3
  have p8 : Kp w7 ((((w7.setCell ⟨w6.heap.size, 0, none⟩ (.bool b7)).setCell ⟨w6.heap.size, 1, none⟩ (.slice A7 n7 c7)).setCell ⟨w6.heap.size, 2, none⟩ (.slice A'7 n'7 c'7)).setCell ⟨w6.heap.size, 3, none⟩ (.bool false)) := (((((Kp.refl w7).setB (p := ⟨w6.heap.size, 0, none⟩) x7_0.box (by decide) (.bool b7)).setB (p := ⟨w6.heap.size, 1, none⟩) (x7_0.box.set ⟨w6.heap.size, 0, none⟩ (.bool b7)) (by decide) (.slice A7 n7 c7)).setB (p := ⟨w6.heap.size, 2, none⟩) ((x7_0.box.set ⟨w6.heap.size, 0, none⟩ (.bool b7)).set ⟨w6.heap.size, 1, none⟩ (.slice A7 n7 c7)) (by decide) (.slice A'7 n'7 c'7)).setB (p := ⟨w6.heap.size, 3, none⟩) (((x7_0.box.set ⟨w6.heap.size, 0, none⟩ (.bool b7)).set ⟨w6.heap.size, 1, none⟩ (.slice A7 n7 c7)).set ⟨w6.heap.size, 2, none⟩ (.slice A'7 n'7 c'7)) (by decide) (.bool false))
  have bw8 : Below w.heap.size w ((((w7.setCell ⟨w6.heap.size, 0, none⟩ (.bool b7)).setCell ⟨w6.heap.size, 1, none⟩ (.slice A7 n7 c7)).setCell ⟨w6.heap.size, 2, none⟩ (.slice A'7 n'7 c'7)).setCell ⟨w6.heap.size, 3, none⟩ (.bool false)) := ((((bw7.setCell (p := ⟨w6.heap.size, 0, none⟩) (by dsimp only; omega) (.bool b7)).setCell (p := ⟨w6.heap.size, 1, none⟩) (by dsimp only; omega) (.slice A7 n7 c7)).setCell (p := ⟨w6.heap.size, 2, none⟩) (by dsimp only; omega) (.slice A'7 n'7 c'7)).setCell (p := ⟨w6.heap.size, 3, none⟩) (by dsimp only; omega) (.bool false))
  replace z2_0 : Blk ((((w7.setCell ⟨w6.heap.size, 0, none⟩ (.bool b7)).setCell ⟨w6.heap.size, 1, none⟩ (.slice A7 n7 c7)).setCell ⟨w6.heap.size, 2, none⟩ (.slice A'7 n'7 c'7)).setCell ⟨w6.heap.size, 3, none⟩ (.bool false)) (w.heap.size) 26 #[.bool b, .slice A n c, .slice D m e, .bool x] := ((((z2_0.far (p := ⟨w6.heap.size, 0, none⟩) (by dsimp only; omega) (.bool b7)).far (p := ⟨w6.heap.size, 1, none⟩) (by dsimp only; omega) (.slice A7 n7 c7)).far (p := ⟨w6.heap.size, 2, none⟩) (by dsimp only; omega) (.slice A'7 n'7 c'7)).far (p := ⟨w6.heap.size, 3, none⟩) (by dsimp only; omega) (.bool false))
  replace z2_1 : Blk ((((w7.setCell ⟨w6.heap.size, 0, none⟩ (.bool b7)).setCell ⟨w6.heap.size, 1, none⟩ (.slice A7 n7 c7)).setCell ⟨w6.heap.size, 2, none⟩ (.slice A'7 n'7 c'7)).setCell ⟨w6.heap.size, 3, none⟩ (.bool false)) (w.heap.size + 1) 26 #[.bool b', .slice A' n' c', .slice D' m' e', .bool x'] := ((((z2_1.far (p := ⟨w6.heap.size, 0, none⟩) (by dsimp only; omega) (.bool b7)).far (p := ⟨w6.heap.size, 1, none⟩) (by dsimp only; omega) (.slice A7 n7 c7)).far (p := ⟨w6.heap.size, 2, none⟩) (by dsimp only; omega) (.slice A'7 n'7 c'7)).far (p := ⟨w6.heap.size, 3, none⟩) (by dsimp only; omega) (.bool false))
  replace z2_2 : Blk ((((w7.setCell ⟨w6.heap.size, 0, none⟩ (.bool b7)).setCell ⟨w6.heap.size, 1, none⟩ (.slice A7 n7 c7)).setCell ⟨w6.heap.size, 2, none⟩ (.slice A'7 n'7 c'7)).setCell ⟨w6.heap.size, 3, none⟩ (.bool false)) (w.heap.size + 1 + 1) 26 #[.bool false, .slice none 0 0, .slice none 0 0, .bool false] := ((((z2_2.far (p := ⟨w6.heap.size, 0, none⟩) (by dsimp only; omega) (.bool b7)).far (p := ⟨w6.heap.size, 1, none⟩) (by dsimp only; omega) (.slice A7 n7 c7)).far (p := ⟨w6.heap.size, 2, none⟩) (by dsimp only; omega) (.slice A'7 n'7 c'7)).far (p := ⟨w6.heap.size, 3, none⟩) (by dsimp only; omega) (.bool false))
  replace z2_3 : Blk ((((w7.setCell ⟨w6.heap.size, 0, none⟩ (.bool b7)).setCell ⟨w6.heap.size, 1, none⟩ (.slice A7 n7 c7)).setCell ⟨w6.heap.size, 2, none⟩ (.slice A'7 n'7 c'7)).setCell ⟨w6.heap.size, 3, none⟩ (.bool false)) (w.heap.size + 1 + 1 + 1) 26 #[.bool b, .slice A n c, .slice D m e, .bool x, .bool b', .slice A' n' c', .slice D' m' e', .bool x'] := ((((z2_3.far (p := ⟨w6.heap.size, 0, none⟩) (by dsimp only; omega) (.bool b7)).far (p := ⟨w6.heap.size, 1, none⟩) (by dsimp only; omega) (.slice A7 n7 c7)).far (p := ⟨w6.heap.size, 2, none⟩) (by dsimp only; omega) (.slice A'7 n'7 c'7)).far (p := ⟨w6.heap.size, 3, none⟩) (by dsimp only; omega) (.bool false))
  replace xg7_2 : Blk ((((w7.setCell ⟨w6.heap.size, 0, none⟩ (.bool b7)).setCell ⟨w6.heap.size, 1, none⟩ (.slice A7 n7 c7)).setCell ⟨w6.heap.size, 2, none⟩ (.slice A'7 n'7 c'7)).setCell ⟨w6.heap.size, 3, none⟩ (.bool false)) (g7_2) 26 #[.bool b4, .slice A4 n4 c4, .slice A'4 n'4 c'4, .bool true] := ((((xg7_2.far (p := ⟨w6.heap.size, 0, none⟩) (by dsimp only; omega) (.bool b7)).far (p := ⟨w6.heap.size, 1, none⟩) (by dsimp only; omega) (.slice A7 n7 c7)).far (p := ⟨w6.heap.size, 2, none⟩) (by dsimp only; omega) (.slice A'7 n'7 c'7)).far (p := ⟨w6.heap.size, 3, none⟩) (by dsimp only; omega) (.bool false))
  replace x7_0 : Blk ((((w7.setCell ⟨w6.heap.size, 0, none⟩ (.bool b7)).setCell ⟨w6.heap.size, 1, none⟩ (.slice A7 n7 c7)).setCell ⟨w6.heap.size, 2, none⟩ (.slice A'7 n'7 c'7)).setCell ⟨w6.heap.size, 3, none⟩ (.bool false)) (w6.heap.size) 26 #[.bool b7, .slice A7 n7 c7, .slice A'7 n'7 c'7, .bool false] := ((((x7_0.set_at 0 (.bool b7) #[.bool b7, .slice A6 n6 c6, .slice A'6 n'6 c'6, .bool x6] (by simp)).set_at 1 (.slice A7 n7 c7) #[.bool b7, .slice A7 n7 c7, .slice A'6 n'6 c'6, .bool x6] (by simp)).set_at 2 (.slice A'7 n'7 c'7) #[.bool b7, .slice A7 n7 c7, .slice A'7 n'7 c'7, .bool x6] (by simp)).set_at 3 (.bool false) #[.bool b7, .slice A7 n7 c7, .slice A'7 n'7 c'7, .bool false] (by simp))
  have lw8 : w7.heap.size + 0 ≤ ((((w7.setCell ⟨w6.heap.size, 0, none⟩ (.bool b7)).setCell ⟨w6.heap.size, 1, none⟩ (.slice A7 n7 c7)).setCell ⟨w6.heap.size, 2, none⟩ (.slice A'7 n'7 c'7)).setCell ⟨w6.heap.size, 3, none⟩ (.bool false)).heap.size := by simp
  generalize hE8 : ((((w7.setCell ⟨w6.heap.size, 0, none⟩ (.bool b7)).setCell ⟨w6.heap.size, 1, none⟩ (.slice A7 n7 c7)).setCell ⟨w6.heap.size, 2, none⟩ (.slice A'7 n'7 c'7)).setCell ⟨w6.heap.size, 3, none⟩ (.bool false)) = w8 at p8 bw8 lw8 z2_0 z2_1 z2_2 z2_3 xg7_2 x7_0 ⊢
  clear hE8
  replace h := h.keep p8
  replace h' := h'.keep p8
  replace h4 := h4.keep p8
  replace h6 := h6.keep p8
  replace h7 := h7.keep p8
  replace hF := hF.keep p8
  clear bw7
  (with_reducible refine (t_add _ b A n c D m e x (t) (k) ?_ b7 A7 n7 c7 A'7 n'7 c'7 false (⟨((1 : Int) : Rat), false⟩) (1) ?_ ?_ ?_ ?_ ?_).mono ?_); (exact h); (exact hF.tk); (first | omega | decide | assumption); (first | omega | decide | assumption); (first | omega | decide | assumption); (first | omega | decide | assumption); rintro e w9 ⟨b9, A9, n9, c9, A'9, n'9, c'9, x9, rfl, h9, hb9⟩
  have q9 : Below w8.heap.size w8 w9 := hb9
  replace h := h.belw q9
  replace h' := h'.belw q9
  replace h4 := h4.belw q9
  replace h6 := h6.belw q9
  replace h7 := h7.belw q9
  replace hF := hF.belw q9
  replace z2_0 := z2_0.below q9 z2_0.lt
  replace z2_1 := z2_1.below q9 z2_1.lt
  replace z2_2 := z2_2.below q9 z2_2.lt
  replace z2_3 := z2_3.below q9 z2_3.lt
  replace xg7_2 := xg7_2.below q9 xg7_2.lt
  replace x7_0 := x7_0.below q9 x7_0.lt
  have bw9 : Below w.heap.size w w9 := bw8.trans (q9.mono bw8.size)
  have lw9 : w8.heap.size ≤ w9.heap.size := q9.size
  clear hb9 q9 bw8
  obtain ⟨cz2_2_0, cz2_2_1, cz2_2_2, cz2_2_3⟩ := z2_2.c4
  obtain ⟨fz2_2_0, fz2_2_1, fz2_2_2, fz2_2_3⟩ := z2_2.f4
  obtain ⟨lz2_2_0, lz2_2_1, lz2_2_2, lz2_2_3⟩ := lts2 z2_2.lt
  go_wp2_with fail
  rw [HT.out]
  refine bodyPost_ret (v := .tuple #[.agg #[.bool b9, .slice A9 n9 c9, .slice A'9 n'9 c'9, .bool x9], .nilIface]) (by simp [results, Tryz.results13, go_sem, *] <;> first | rfl | exact ⟨rfl, rfl⟩) rfl ?_
  have kp := (((((Kp.refl w9).setB (p := ⟨w.heap.size + 1 + 1, 0, none⟩) z2_2.box (by decide) (.bool b9)).setB (p := ⟨w.heap.size + 1 + 1, 1, none⟩) (z2_2.box.set ⟨w.heap.size + 1 + 1, 0, none⟩ (.bool b9)) (by decide) (.slice A9 n9 c9)).setB (p := ⟨w.heap.size + 1 + 1, 2, none⟩) ((z2_2.box.set ⟨w.heap.size + 1 + 1, 0, none⟩ (.bool b9)).set ⟨w.heap.size + 1 + 1, 1, none⟩ (.slice A9 n9 c9)) (by decide) (.slice A'9 n'9 c'9)).setB (p := ⟨w.heap.size + 1 + 1, 3, none⟩) (((z2_2.box.set ⟨w.heap.size + 1 + 1, 0, none⟩ (.bool b9)).set ⟨w.heap.size + 1 + 1, 1, none⟩ (.slice A9 n9 c9)).set ⟨w.heap.size + 1 + 1, 2, none⟩ (.slice A'9 n'9 c'9)) (by decide) (.bool x9))
  exact ⟨b9, A9, n9, c9, A'9, n'9, c'9, x9, rfl, (h9.keep kp).mono (by omega), ((((bw9.setCell (p := ⟨w.heap.size + 1 + 1, 0, none⟩) (by dsimp only; omega) (.bool b9)).setCell (p := ⟨w.heap.size + 1 + 1, 1, none⟩) (by dsimp only; omega) (.slice A9 n9 c9)).setCell (p := ⟨w.heap.size + 1 + 1, 2, none⟩) (by dsimp only; omega) (.slice A'9 n'9 c'9)).setCell (p := ⟨w.heap.size + 1 + 1, 3, none⟩) (by dsimp only; omega) (.bool x9))⟩
set_option maxRecDepth 100000 in
set_option maxHeartbeats 4000000 in
/-- turn.Between -/
theorem t_Between_p (w : World) (b : Bool) (A : Option Addr) (n c : Nat) (D : Option Addr) (m e : Nat) (x : Bool) (t : TN) (k : Nat) (h : TK w b A n c D m e x t k) (b' : Bool) (A' : Option Addr) (n' c' : Nat) (D' : Option Addr) (m' e' : Nat) (x' : Bool) (t' : TN) (k' : Nat) (h' : TK w b' A' n' c' D' m' e' x' t' k') (h0 : 0 < k) (hk : k ≤ 50000) (h0' : 0 < k') (hk' : k' ≤ 50000) (hh : (tadd t' (tneg t)).h = false) (s : Int) (hs : (tadd t' (tneg t)).t.num.sign = s) (hp : 0 < (tadd t' (tneg t)).t) (hp2 : 0 < s) :
    Calls Tryz.prog 13 #[.agg #[.bool b, .slice A n c, .slice D m e, .bool x], .agg #[.bool b', .slice A' n' c', .slice D' m' e', .bool x']] w (RetTe w .nilIface (tbetween t t') (6 * k + 4 * k' + 20)) := by
  have HT := Lib.hid (show tbetween t t' = tadd t ⟨(tadd t' (tneg t)).t / ((2 : Int) : Rat), false⟩ by unfold tbetween; rw [if_neg (by rw [hh]; decide), if_pos hp]; rfl)
  have HH := Lib.hid hh
  have HS := Lib.hid hs
  have e0 : decide (s > 0) = true := by simp; omega
  clear hh hs hp hp2
  go_enter Tryz.func13, Tryz.ntmps13
  go_wp2_with fail
  (with_reducible refine (t_checkAll _ (w.heap.size + 1 + 1 + 1) 2 ((k) + (k')) ?_ ?_ ?_ ?_).mono ?_); (exact ts2 (blkAt _ _ _ (by simp)) ((h.belw (((((Below.refl _ _).alloc (Nat.le_refl _) _).alloc (by simp) _).alloc (by simp <;> omega) _).alloc (by simp <;> omega) _)).mono (by omega)) ((h'.belw (((((Below.refl _ _).alloc (Nat.le_refl _) _).alloc (by simp) _).alloc (by simp <;> omega) _).alloc (by simp <;> omega) _)).mono (by omega))); (decide); (omega); (omega); rintro e w1 ⟨rfl, hb1⟩
  have q1 : Below w.heap.size w w1 := (((((Below.refl _ _).alloc (Nat.le_refl _) _).alloc (by simp) _).alloc (by simp <;> omega) _).alloc (by simp <;> omega) _).trans (hb1.mono (by simp <;> omega))
  replace h := h.belw q1
  replace h' := h'.belw q1
  have x1_0 : Blk w1 (w.heap.size) 26 #[.bool b, .slice A n c, .slice D m e, .bool x] := ((((blkAt _ _ _ (by simp)).alloc _).alloc _).alloc _).below hb1 (by simp <;> omega)
  have x1_1 : Blk w1 (w.heap.size + 1) 26 #[.bool b', .slice A' n' c', .slice D' m' e', .bool x'] := (((blkAt _ _ _ (by simp)).alloc _).alloc _).below hb1 (by simp <;> omega)
  have x1_2 : Blk w1 (w.heap.size + 1 + 1) 26 #[.bool false, .slice none 0 0, .slice none 0 0, .bool false] := ((blkAt _ _ _ (by simp)).alloc _).below hb1 (by simp <;> omega)
  have x1_3 : Blk w1 (w.heap.size + 1 + 1 + 1) 26 #[.bool b, .slice A n c, .slice D m e, .bool x, .bool b', .slice A' n' c', .slice D' m' e', .bool x'] := (blkAt _ _ _ (by simp)).below hb1 (by simp)
  have bw1 : Below w.heap.size w w1 := (brefl w).trans (q1.mono (brefl w).size)
  have lw1 : w.heap.size + 4 ≤ w1.heap.size := by have := hb1.size; simp at this; omega
  clear hb1 q1
  obtain ⟨cx1_0_0, cx1_0_1, cx1_0_2, cx1_0_3⟩ := x1_0.c4
  obtain ⟨lx1_0_0, lx1_0_1, lx1_0_2, lx1_0_3⟩ := lts0 x1_0.lt
  obtain ⟨cx1_1_0, cx1_1_1, cx1_1_2, cx1_1_3⟩ := x1_1.c4
  obtain ⟨lx1_1_0, lx1_1_1, lx1_1_2, lx1_1_3⟩ := lts1 x1_1.lt
  go_wp2_with fail
  refine wp_region_lin (B := w.heap.size) (fr := fun xf => ⟨List.toArray (.agg #[.bool b, .slice A n c, .slice D m e, .bool x] :: .agg #[.bool b', .slice A' n' c', .slice D' m' e', .bool x'] :: .pointer (some ⟨w.heap.size, 0, none⟩) :: .pointer (some ⟨w.heap.size + 1, 0, none⟩) :: .pointer (some ⟨w.heap.size + 1 + 1, 0, none⟩) :: .nilIface :: .nilIface :: xf 4 :: undef :: .agg #[.bool b, .slice A n c, .slice D m e, .bool x] :: .agg #[.bool b', .slice A' n' c', .slice D' m' e', .bool x'] :: .slice (some ⟨w.heap.size + 1 + 1 + 1, 0, none⟩) 2 2 :: .nilIface :: .nilIface :: .bool false :: undef :: undef :: xf 0 :: xf 1 :: xf 2 :: xf 3 :: undef :: undef :: undef :: undef :: undef :: undef :: undef :: undef :: undef :: undef :: undef :: undef :: undef :: undef :: undef :: undef :: undef :: undef :: undef :: []), []⟩) (R := fun i => List.getD ((PEq (.agg #[.bool b', .slice A' n' c', .slice D' m' e', .bool x'])) :: (PEq (.agg #[.bool b, .slice A n c, .slice D m e, .bool x])) :: (VT (tneg ((t))) ((k))) :: (VT (tadd ((t')) ((tneg ((t))))) (2 * ((k')) + 2 * (((k))) + 3)) :: PAny :: PAny :: []) i (fun _ _ => True)) (es := [⟨4, 5, 26, #[.bool false, .slice none 0 0, .slice none 0 0, .bool false], CT (tadd ((t')) ((tneg ((t))))) (2 * ((k')) + 2 * (((k))) + 3)⟩]) (ow := [⟨w.heap.size, 6, 0, 26, #[.bool b, .slice A n c, .slice D m e, .bool x], CAny⟩, ⟨w.heap.size + 1, 6, 0, 26, #[.bool b', .slice A' n' c', .slice D' m' e', .bool x'], CAny⟩, ⟨w.heap.size + 1 + 1, 6, 0, 26, #[.bool false, .slice none 0 0, .slice none 0 0, .bool false], CAny⟩, ⟨w.heap.size + 1 + 1 + 1, 6, 0, 26, #[.bool b, .slice A n c, .slice D m e, .bool x, .bool b', .slice A' n' c', .slice D' m' e', .bool x'], CAny⟩]) (x0 := (fun _ => undef)) (by kernel_rfl)
    (each_of ⟨fun _ _ => rfl, fun _ _ => rfl, fun _ _ => rfl, fun _ _ => rfl, fun _ _ => rfl, fun _ _ => rfl, trivial⟩) (each_of (acyc_from _ 0 (by kernel_rfl))) (AllStab.get _ ⟨stEq _, stEq _, stT _ _, stT _ _, stAny, stAny, trivial⟩)
    (List.forall_mem_cons.2 ⟨scT _ _, fun _ h => nomatch h⟩) (List.forall_mem_cons.2 ⟨scAny, List.forall_mem_cons.2 ⟨scAny, List.forall_mem_cons.2 ⟨scAny, List.forall_mem_cons.2 ⟨scAny, fun _ h => nomatch h⟩⟩⟩⟩) (List.forall_mem_cons.2 ⟨⟨by simp, by simp⟩, fun _ h => nomatch h⟩) bw1.size
    (List.forall_mem_cons.2 ⟨⟨x1_0, by show w.heap.size ≤ w.heap.size; omega⟩, List.forall_mem_cons.2 ⟨⟨x1_1, by show w.heap.size ≤ w.heap.size + 1; omega⟩, List.forall_mem_cons.2 ⟨⟨x1_2, by show w.heap.size ≤ w.heap.size + 1 + 1; omega⟩, List.forall_mem_cons.2 ⟨⟨x1_3, by show w.heap.size ≤ w.heap.size + 1 + 1 + 1; omega⟩, fun _ h => nomatch h⟩⟩⟩⟩) (ownDist (by simp <;> omega))
    (each_of ⟨?_, ?_, ?_, ?_, ?_, ?_, trivial⟩) ?_
  · exact .inl ⟨by simp, by simp, fun xf wq hk hbl hd K hK => by
      have y : Blk wq (w.heap.size + 1) 26 #[.bool b', .slice A' n' c', .slice D' m' e', .bool x'] := hbl _ (List.Mem.tail _ (List.Mem.head _)) (by simp [Region.binds])
      obtain ⟨hcl0, hcl1, hcl2, hcl3⟩ := y.c4
      (try dsimp only)
      go_simp
      exact hK.out (.agg #[.bool b', .slice A' n' c', .slice D' m' e', .bool x']) _ rfl (brefl _)⟩
  · exact .inl ⟨by simp, by simp, fun xf wq hk hbl hd K hK => by
      have y : Blk wq (w.heap.size) 26 #[.bool b, .slice A n c, .slice D m e, .bool x] := hbl _ (List.Mem.head _) (by simp [Region.binds])
      obtain ⟨hcl0, hcl1, hcl2, hcl3⟩ := y.c4
      (try dsimp only)
      go_simp
      exact hK.out (.agg #[.bool b, .slice A n c, .slice D m e, .bool x]) _ rfl (brefl _)⟩
  · exact .inl ⟨by simp, by simp, fun xf wq hk hbl hd K hK => by
      have d1 : xf 1 = .agg #[.bool b, .slice A n c, .slice D m e, .bool x] := hd ⟨1, .data⟩ (by simp) rfl
      (try dsimp only); (try simp only [d1])
      go_simp
      go_at_call 27
      (with_reducible refine (t_neg _ b A n c D m e x (t) (k) ?_ ?_ ?_).mono ?_); (exact (h.keep hk)); (first | omega | decide | assumption); (first | omega | decide | assumption); rintro e wr ⟨b3, A3, n3, c3, A'3, n'3, c'3, x3, rfl, h3, hbr⟩
      have hz := hK.out _ _ ⟨b3, A3, n3, c3, A'3, n'3, c'3, x3, rfl, h3⟩ hbr
      simp only [d1] at hz
      exact hz⟩
  · exact .inl ⟨by simp, by simp, fun xf wq hk hbl hd K hK => by
      have d0 : xf 0 = .agg #[.bool b', .slice A' n' c', .slice D' m' e', .bool x'] := hd ⟨0, .data⟩ (by simp) rfl
      obtain ⟨b3, A3, n3, c3, A'3, n'3, c'3, x3, d2, h3⟩ : VT (tneg ((t))) ((k)) (xf 2) wq := hd ⟨2, .data⟩ (by simp) rfl
      (try dsimp only); (try simp only [d0, d2])
      go_simp
      go_at_call 28
      (with_reducible refine (t_add _ b' A' n' c' D' m' e' x' (t') (k') ?_ b3 A3 n3 c3 A'3 n'3 c'3 x3 (tneg ((t))) ((k)) ?_ ?_ ?_ ?_ ?_).mono ?_); (exact (h'.keep hk)); (exact h3.tk); (first | omega | decide | assumption); (first | omega | decide | assumption); (first | omega | decide | assumption); (first | omega | decide | assumption); rintro e wr ⟨b4, A4, n4, c4, A'4, n'4, c'4, x4, rfl, h4, hbr⟩
      have hz := hK.out _ _ ⟨b4, A4, n4, c4, A'4, n'4, c'4, x4, rfl, h4⟩ hbr
      simp only [d0, d2] at hz
      exact hz⟩
  · exact .inr (.inl ⟨⟨4, 5, 26, #[.bool false, .slice none 0 0, .slice none 0 0, .bool false], CT (tadd ((t')) ((tneg ((t))))) (2 * ((k')) + 2 * (((k))) + 3)⟩, by simp, rfl, by simp, by simp, by simp, fun _ _ => True.intro, fun xf wq K hK => by
      (try dsimp only)
      go_simp
      exact hK.out⟩)
  · exact .inr (.inr (.inl ⟨⟨4, 5, 26, #[.bool false, .slice none 0 0, .slice none 0 0, .bool false], CT (tadd ((t')) ((tneg ((t))))) (2 * ((k')) + 2 * (((k))) + 3)⟩, by simp, rfl, by simp, by simp, by simp, by simp, (show KT 26 = false by decide), fun _ _ => True.intro, ⟨⟨4, .data⟩, by simp, rfl, rfl⟩, fun xf wq g hx hblk hd => by
      obtain ⟨b4, A4, n4, c4, A'4, n'4, c'4, x4, d3, h4⟩ : VT (tadd ((t')) ((tneg ((t))))) (2 * ((k')) + 2 * (((k))) + 3) (xf 3) wq := hd ⟨3, .data⟩ (by simp) rfl
      dsimp only at hx hblk
      refine ⟨[.bool b4, .slice A4 n4 c4, .slice A'4 n'4 c'4, .bool x4], fun w' hk => ⟨b4, A4, n4, c4, A'4, n'4, c'4, x4, rfl, h4.keep hk⟩, fun K hK => ?_⟩
      have hc0 : wq.cell? ⟨g, 0, none⟩ = some (.bool false) := hblk.cell 0
      have hc1 : wq.cell? ⟨g, 1, none⟩ = some (.slice none 0 0) := hblk.cell 1
      have hc2 : wq.cell? ⟨g, 2, none⟩ = some (.slice none 0 0) := hblk.cell 2
      have hc3 : wq.cell? ⟨g, 3, none⟩ = some (.bool false) := hblk.cell 3
      have hf0 : wq.frozen? ⟨g, 0, none⟩ = false := hblk.frozen 0
      have hf1 : wq.frozen? ⟨g, 1, none⟩ = false := hblk.frozen 1
      have hf2 : wq.frozen? ⟨g, 2, none⟩ = false := hblk.frozen 2
      have hf3 : wq.frozen? ⟨g, 3, none⟩ = false := hblk.frozen 3
      (try dsimp only)
      simp only [hx, d3]
      go_simp
      have hz := hK.out undef
      simp only [hx, d3] at hz
      exact hz⟩))
  clear cx1_0_0 cx1_0_1 cx1_0_2 cx1_0_3 lx1_0_0 lx1_0_1 lx1_0_2 lx1_0_3 cx1_1_0 cx1_1_1 cx1_1_2 cx1_1_3 lx1_1_0 lx1_1_1 lx1_1_2 lx1_1_3
  intro y2 w2 kq2 hbl2 lw2 how hrr hfl hds
  replace h := h.keep kq2
  replace h' := h'.keep kq2
  obtain ⟨_, z2_0, ez, _⟩ := how _ (List.Mem.head _)
  obtain rfl := ez (by simp)
  dsimp only at z2_0
  obtain ⟨_, z2_1, ez, _⟩ := how _ (List.Mem.tail _ (List.Mem.head _))
  obtain rfl := ez (by simp)
  dsimp only at z2_1
  obtain ⟨_, z2_2, ez, _⟩ := how _ (List.Mem.tail _ (List.Mem.tail _ (List.Mem.head _)))
  obtain rfl := ez (by simp)
  dsimp only at z2_2
  obtain ⟨_, z2_3, ez, _⟩ := how _ (List.Mem.tail _ (List.Mem.tail _ (List.Mem.tail _ (List.Mem.head _))))
  obtain rfl := ez (by simp)
  dsimp only at z2_3
  obtain ⟨g7_2, _, eg7_2, Gg7_2, xg7_2, ⟨b4, A4, n4, c4, A'4, n'4, c'4, x4, rfl, h4⟩⟩ := hfl _ (List.Mem.head _)
  dsimp only at eg7_2 Gg7_2 xg7_2
  have lgg7_2 : g7_2 < w2.heap.size := xg7_2.lt
  (try dsimp only)
  simp only [eg7_2]
  clear hrr hfl how hds eg7_2
  clear x1_0 x1_1 x1_2 x1_3
  have bw2 : Below w.heap.size w w2 := bw1.trans hbl2
  clear bw1
  go_wp2_with fail
  obtain rfl : x4 = false := h4.2.1.trans HH.out
  (with_reducible refine (t_half _).mono ?_); rintro e w6 ⟨b6, A6, n6, c6, A'6, n'6, c'6, x6, rfl, h6, hb6⟩
  have q6 : Below w2.heap.size w2 w6 := hb6
  replace h := h.belw q6
  replace h' := h'.belw q6
  replace h4 := h4.belw q6
  replace z2_0 := z2_0.below q6 z2_0.lt
  replace z2_1 := z2_1.below q6 z2_1.lt
  replace z2_2 := z2_2.below q6 z2_2.lt
  replace z2_3 := z2_3.below q6 z2_3.lt
  replace xg7_2 := xg7_2.below q6 xg7_2.lt
  have bw6 : Below w.heap.size w w6 := bw2.trans (q6.mono bw2.size)
  have lw6 : w2.heap.size ≤ w6.heap.size := q6.size
  clear hb6 q6 bw2
  obtain ⟨cxg7_2_0, cxg7_2_1, cxg7_2_2, cxg7_2_3⟩ := xg7_2.c4
  obtain ⟨lxg7_2_0, lxg7_2_1, lxg7_2_2, lxg7_2_3⟩ := lts0 xg7_2.lt
  go_wp2_with fail
  (with_reducible refine (f_sign_e _ b4 A4 n4 c4 A'4 n'4 c'4 ((tadd ((t')) ((tneg ((t))))).t) (2 * ((k')) + 2 * (((k))) + 3) ?_ (s) ?_ ?_ ?_).mono ?_); (exact (h4.belw ((Below.refl _ _).alloc (Nat.le_refl _) _)).qz); (exact HS.out); (first | omega | decide | assumption); (first | omega | decide | assumption); rintro e w7 ⟨rfl, hb7⟩
  clear cxg7_2_0 cxg7_2_1 cxg7_2_2 cxg7_2_3 lxg7_2_0 lxg7_2_1 lxg7_2_2 lxg7_2_3
  have q7 : Below w6.heap.size w6 w7 := ((Below.refl _ _).alloc (Nat.le_refl _) _).trans (hb7.mono (by simp))
  replace h := h.belw q7
  replace h' := h'.belw q7
  replace h4 := h4.belw q7
  replace h6 := h6.belw q7
  replace z2_0 := z2_0.below q7 z2_0.lt
  replace z2_1 := z2_1.below q7 z2_1.lt
  replace z2_2 := z2_2.below q7 z2_2.lt
  replace z2_3 := z2_3.below q7 z2_3.lt
  replace xg7_2 := xg7_2.below q7 xg7_2.lt
  have x7_0 : Blk w7 (w6.heap.size) 26 #[.bool b6, .slice A6 n6 c6, .slice A'6 n'6 c'6, .bool x6] := (blkAt _ _ _ (by simp)).below hb7 (by simp)
  have bw7 : Below w.heap.size w w7 := bw6.trans (q7.mono bw6.size)
  have lw7 : w6.heap.size + 1 ≤ w7.heap.size := by have := hb7.size; simp at this; omega
  clear hb7 q7 bw6
  obtain ⟨lz2_0_0, lz2_0_1, lz2_0_2, lz2_0_3⟩ := lts0 z2_0.lt
  obtain ⟨lz2_1_0, lz2_1_1, lz2_1_2, lz2_1_3⟩ := lts1 z2_1.lt
  obtain ⟨lz2_2_0, lz2_2_1, lz2_2_2, lz2_2_3⟩ := lts2 z2_2.lt
  obtain ⟨lz2_3_0, lz2_3_1, lz2_3_2, lz2_3_3⟩ := lts3 z2_3.lt
  obtain ⟨cxg7_2_0, cxg7_2_1, cxg7_2_2, cxg7_2_3⟩ := xg7_2.c4
  obtain ⟨lxg7_2_0, lxg7_2_1, lxg7_2_2, lxg7_2_3⟩ := lts0 xg7_2.lt
  obtain ⟨cx7_0_0, cx7_0_1, cx7_0_2, cx7_0_3⟩ := x7_0.c4
  obtain ⟨fx7_0_0, fx7_0_1, fx7_0_2, fx7_0_3⟩ := x7_0.f4
  obtain ⟨lx7_0_0, lx7_0_1, lx7_0_2, lx7_0_3⟩ := lts0 x7_0.lt
  go_wp2_with fail
  have nfz2_0_0 : ¬ w.heap.size = w6.heap.size := by omega
  have nez2_0_0 : ¬ w.heap.size = w6.heap.size := by omega
  have nfz2_1_0 : ¬ w.heap.size + 1 = w6.heap.size := by omega
  have nez2_1_0 : ¬ w.heap.size + 1 = w6.heap.size := by omega
  have nfz2_2_0 : ¬ w.heap.size + 1 + 1 = w6.heap.size := by omega
  have nez2_2_0 : ¬ w.heap.size + 2 = w6.heap.size := by omega
  have nfz2_3_0 : ¬ w.heap.size + 1 + 1 + 1 = w6.heap.size := by omega
  have nez2_3_0 : ¬ w.heap.size + 3 = w6.heap.size := by omega
  have nfxg7_2_0 : ¬ g7_2 = w6.heap.size := by omega
  have nexg7_2_0 : ¬ g7_2 = w6.heap.size := by omega
  go_region_held3 (fun w' => SeesX w7.heap.size (w6.heap.size) w7 w') (first | with_reducible exact SeesX.of (Nat.le_refl _) (by assumption) | with_reducible exact SeesX.of (Nat.le_refl _) (brefl _).drew | with_reducible exact (SeesX.set (SeesX.set (SeesX.set (SeesX.set (SeesX.of (Nat.le_refl _) (by assumption)))))) | with_reducible exact (SeesX.set (SeesX.set (SeesX.set (SeesX.of (Nat.le_refl _) (by assumption))))) | with_reducible exact (SeesX.set (SeesX.set (SeesX.of (Nat.le_refl _) (by assumption)))) | with_reducible exact (SeesX.set (SeesX.of (Nat.le_refl _) (by assumption))) | exact SeesX.of (Nat.le_refl _) (below_drewN (brefl _) 1) | exact SeesX.of (Nat.le_refl _) (below_drewN (by assumption) _))
    (first
      | (go_at_call 33; (with_reducible refine (f_of _ (2) ?_ ?_).mono ?_); (first | omega | decide | assumption); (first | omega | decide | assumption); rintro e w8 ⟨b8, A8, n8, c8, A'8, n'8, c'8, rfl, h8, hb8⟩; replace hb8 := bnext (below_drewN (brefl _) 1) hb8; have q8 : Below w7.heap.size w7 w8 := bnext (brefl w7) hb8; replace h := h.belw hb8; replace h' := h'.belw hb8; replace h4 := h4.belw hb8; replace h6 := h6.belw hb8)
      | (go_at_call 35; (with_reducible refine (t_over _ b4 A4 n4 c4 A'4 n'4 c'4 ((tadd ((t')) ((tneg ((t))))).t) (2 * ((k')) + 2 * (((k))) + 3) ?_ b8 A8 n8 c8 A'8 n'8 c'8 (((2 : Int) : Rat)) (1) ?_ ?_ ?_ ?_ ?_ ?_).mono ?_); (exact h4.qz); (exact h8.qz); (first | omega | decide | assumption); (first | omega | decide | assumption); (first | omega | decide | assumption); (first | omega | decide | assumption); (decide); rintro e w9 ⟨b9, A9, n9, c9, A'9, n'9, c'9, rfl, h9, hb9⟩; have q9 : Below w7.heap.size w7 w9 := bnext q8 hb9; replace h := h.belw hb9; replace h' := h'.belw hb9; replace h4 := h4.belw hb9; replace h6 := h6.belw hb9; replace h8 := h8.belw hb9; have x7_0 : Blk w9 (w6.heap.size) 26 #[.bool b6, .slice A6 n6 c6, .slice A'6 n'6 c'6, .bool x6] := x7_0.below q9 x7_0.lt; obtain ⟨cx7_0_0, cx7_0_1, cx7_0_2, cx7_0_3⟩ := x7_0.c4; obtain ⟨fx7_0_0, fx7_0_1, fx7_0_2, fx7_0_3⟩ := x7_0.f4))
  have bw9 : Below w.heap.size w w9 := bw7.trans (q9.mono bw7.size)
  clear lz2_0_0 lz2_0_1 lz2_0_2 lz2_0_3 lz2_1_0 lz2_1_1 lz2_1_2 lz2_1_3 lz2_2_0 lz2_2_1 lz2_2_2 lz2_2_3 lz2_3_0 lz2_3_1 lz2_3_2 lz2_3_3 cxg7_2_0 cxg7_2_1 cxg7_2_2 cxg7_2_3 lxg7_2_0 lxg7_2_1 lxg7_2_2 lxg7_2_3 cx7_0_0 fx7_0_0 cx7_0_1 fx7_0_1 cx7_0_2 fx7_0_2 cx7_0_3 fx7_0_3 lx7_0_0 lx7_0_1 lx7_0_2 lx7_0_3
  replace z2_0 := z2_0.below q9 z2_0.lt
  replace z2_1 := z2_1.below q9 z2_1.lt
  replace z2_2 := z2_2.below q9 z2_2.lt
  replace z2_3 := z2_3.below q9 z2_3.lt
  replace xg7_2 := xg7_2.below q9 xg7_2.lt
  have lw9 : w7.heap.size ≤ w9.heap.size := q9.size
  obtain ⟨cz2_0_0, cz2_0_1, cz2_0_2, cz2_0_3⟩ := z2_0.c4
  obtain ⟨lz2_0_0, lz2_0_1, lz2_0_2, lz2_0_3⟩ := lts0 z2_0.lt
  obtain ⟨cx7_0_0, cx7_0_1, cx7_0_2, cx7_0_3⟩ := x7_0.c4
  obtain ⟨fx7_0_0, fx7_0_1, fx7_0_2, fx7_0_3⟩ := x7_0.f4
  obtain ⟨lx7_0_0, lx7_0_1, lx7_0_2, lx7_0_3⟩ := lts0 x7_0.lt
  go_wp2_with fail
  have hF := TV.frac h9
  clear cz2_0_0 cz2_0_1 cz2_0_2 cz2_0_3 lz2_0_0 lz2_0_1 lz2_0_2 lz2_0_3 cx7_0_0 fx7_0_0 cx7_0_1 fx7_0_1 cx7_0_2 fx7_0_2 cx7_0_3 fx7_0_3 lx7_0_0 lx7_0_1 lx7_0_2 lx7_0_3
  have p10 : Kp w9 ((((w9.setCell ⟨w6.heap.size, 0, none⟩ (.bool b9)).setCell ⟨w6.heap.size, 1, none⟩ (.slice A9 n9 c9)).setCell ⟨w6.heap.size, 2, none⟩ (.slice A'9 n'9 c'9)).setCell ⟨w6.heap.size, 3, none⟩ (.bool false)) := (((((Kp.refl w9).setB (p := ⟨w6.heap.size, 0, none⟩) x7_0.box (by decide) (.bool b9)).setB (p := ⟨w6.heap.size, 1, none⟩) (x7_0.box.set ⟨w6.heap.size, 0, none⟩ (.bool b9)) (by decide) (.slice A9 n9 c9)).setB (p := ⟨w6.heap.size, 2, none⟩) ((x7_0.box.set ⟨w6.heap.size, 0, none⟩ (.bool b9)).set ⟨w6.heap.size, 1, none⟩ (.slice A9 n9 c9)) (by decide) (.slice A'9 n'9 c'9)).setB (p := ⟨w6.heap.size, 3, none⟩) (((x7_0.box.set ⟨w6.heap.size, 0, none⟩ (.bool b9)).set ⟨w6.heap.size, 1, none⟩ (.slice A9 n9 c9)).set ⟨w6.heap.size, 2, none⟩ (.slice A'9 n'9 c'9)) (by decide) (.bool false))
  have bw10 : Below w.heap.size w ((((w9.setCell ⟨w6.heap.size, 0, none⟩ (.bool b9)).setCell ⟨w6.heap.size, 1, none⟩ (.slice A9 n9 c9)).setCell ⟨w6.heap.size, 2, none⟩ (.slice A'9 n'9 c'9)).setCell ⟨w6.heap.size, 3, none⟩ (.bool false)) := ((((bw9.setCell (p := ⟨w6.heap.size, 0, none⟩) (by dsimp only; omega) (.bool b9)).setCell (p := ⟨w6.heap.size, 1, none⟩) (by dsimp only; omega) (.slice A9 n9 c9)).setCell (p := ⟨w6.heap.size, 2, none⟩) (by dsimp only; omega) (.slice A'9 n'9 c'9)).setCell (p := ⟨w6.heap.size, 3, none⟩) (by dsimp only; omega) (.bool false))
  replace z2_0 : Blk ((((w9.setCell ⟨w6.heap.size, 0, none⟩ (.bool b9)).setCell ⟨w6.heap.size, 1, none⟩ (.slice A9 n9 c9)).setCell ⟨w6.heap.size, 2, none⟩ (.slice A'9 n'9 c'9)).setCell ⟨w6.heap.size, 3, none⟩ (.bool false)) (w.heap.size) 26 #[.bool b, .slice A n c, .slice D m e, .bool x] := ((((z2_0.far (p := ⟨w6.heap.size, 0, none⟩) (by dsimp only; omega) (.bool b9)).far (p := ⟨w6.heap.size, 1, none⟩) (by dsimp only; omega) (.slice A9 n9 c9)).far (p := ⟨w6.heap.size, 2, none⟩) (by dsimp only; omega) (.slice A'9 n'9 c'9)).far (p := ⟨w6.heap.size, 3, none⟩) (by dsimp only; omega) (.bool false))
  replace z2_1 : Blk ((((w9.setCell ⟨w6.heap.size, 0, none⟩ (.bool b9)).setCell ⟨w6.heap.size, 1, none⟩ (.slice A9 n9 c9)).setCell ⟨w6.heap.size, 2, none⟩ (.slice A'9 n'9 c'9)).setCell ⟨w6.heap.size, 3, none⟩ (.bool false)) (w.heap.size + 1) 26 #[.bool b', .slice A' n' c', .slice D' m' e', .bool x'] := ((((z2_1.far (p := ⟨w6.heap.size, 0, none⟩) (by dsimp only; omega) (.bool b9)).far (p := ⟨w6.heap.size, 1, none⟩) (by dsimp only; omega) (.slice A9 n9 c9)).far (p := ⟨w6.heap.size, 2, none⟩) (by dsimp only; omega) (.slice A'9 n'9 c'9)).far (p := ⟨w6.heap.size, 3, none⟩) (by dsimp only; omega) (.bool false))
  replace z2_2 : Blk ((((w9.setCell ⟨w6.heap.size, 0, none⟩ (.bool b9)).setCell ⟨w6.heap.size, 1, none⟩ (.slice A9 n9 c9)).setCell ⟨w6.heap.size, 2, none⟩ (.slice A'9 n'9 c'9)).setCell ⟨w6.heap.size, 3, none⟩ (.bool false)) (w.heap.size + 1 + 1) 26 #[.bool false, .slice none 0 0, .slice none 0 0, .bool false] := ((((z2_2.far (p := ⟨w6.heap.size, 0, none⟩) (by dsimp only; omega) (.bool b9)).far (p := ⟨w6.heap.size, 1, none⟩) (by dsimp only; omega) (.slice A9 n9 c9)).far (p := ⟨w6.heap.size, 2, none⟩) (by dsimp only; omega) (.slice A'9 n'9 c'9)).far (p := ⟨w6.heap.size, 3, none⟩) (by dsimp only; omega) (.bool false))
  replace z2_3 : Blk ((((w9.setCell ⟨w6.heap.size, 0, none⟩ (.bool b9)).setCell ⟨w6.heap.size, 1, none⟩ (.slice A9 n9 c9)).setCell ⟨w6.heap.size, 2, none⟩ (.slice A'9 n'9 c'9)).setCell ⟨w6.heap.size, 3, none⟩ (.bool false)) (w.heap.size + 1 + 1 + 1) 26 #[.bool b, .slice A n c, .slice D m e, .bool x, .bool b', .slice A' n' c', .slice D' m' e', .bool x'] := ((((z2_3.far (p := ⟨w6.heap.size, 0, none⟩) (by dsimp only; omega) (.bool b9)).far (p := ⟨w6.heap.size, 1, none⟩) (by dsimp only; omega) (.slice A9 n9 c9)).far (p := ⟨w6.heap.size, 2, none⟩) (by dsimp only; omega) (.slice A'9 n'9 c'9)).far (p := ⟨w6.heap.size, 3, none⟩) (by dsimp only; omega) (.bool false))
  replace xg7_2 : Blk ((((w9.setCell ⟨w6.heap.size, 0, none⟩ (.bool b9)).setCell ⟨w6.heap.size, 1, none⟩ (.slice A9 n9 c9)).setCell ⟨w6.heap.size, 2, none⟩ (.slice A'9 n'9 c'9)).setCell ⟨w6.heap.size, 3, none⟩ (.bool false)) (g7_2) 26 #[.bool b4, .slice A4 n4 c4, .slice A'4 n'4 c'4, .bool false] := ((((xg7_2.far (p := ⟨w6.heap.size, 0, none⟩) (by dsimp only; omega) (.bool b9)).far (p := ⟨w6.heap.size, 1, none⟩) (by dsimp only; omega) (.slice A9 n9 c9)).far (p := ⟨w6.heap.size, 2, none⟩) (by dsimp only; omega) (.slice A'9 n'9 c'9)).far (p := ⟨w6.heap.size, 3, none⟩) (by dsimp only; omega) (.bool false))
  replace x7_0 : Blk ((((w9.setCell ⟨w6.heap.size, 0, none⟩ (.bool b9)).setCell ⟨w6.heap.size, 1, none⟩ (.slice A9 n9 c9)).setCell ⟨w6.heap.size, 2, none⟩ (.slice A'9 n'9 c'9)).setCell ⟨w6.heap.size, 3, none⟩ (.bool false)) (w6.heap.size) 26 #[.bool b9, .slice A9 n9 c9, .slice A'9 n'9 c'9, .bool false] := ((((x7_0.set_at 0 (.bool b9) #[.bool b9, .slice A6 n6 c6, .slice A'6 n'6 c'6, .bool x6] (by simp)).set_at 1 (.slice A9 n9 c9) #[.bool b9, .slice A9 n9 c9, .slice A'6 n'6 c'6, .bool x6] (by simp)).set_at 2 (.slice A'9 n'9 c'9) #[.bool b9, .slice A9 n9 c9, .slice A'9 n'9 c'9, .bool x6] (by simp)).set_at 3 (.bool false) #[.bool b9, .slice A9 n9 c9, .slice A'9 n'9 c'9, .bool false] (by simp))
  have lw10 : w9.heap.size + 0 ≤ ((((w9.setCell ⟨w6.heap.size, 0, none⟩ (.bool b9)).setCell ⟨w6.heap.size, 1, none⟩ (.slice A9 n9 c9)).setCell ⟨w6.heap.size, 2, none⟩ (.slice A'9 n'9 c'9)).setCell ⟨w6.heap.size, 3, none⟩ (.bool false)).heap.size := by simp
  generalize hE10 : ((((w9.setCell ⟨w6.heap.size, 0, none⟩ (.bool b9)).setCell ⟨w6.heap.size, 1, none⟩ (.slice A9 n9 c9)).setCell ⟨w6.heap.size, 2, none⟩ (.slice A'9 n'9 c'9)).setCell ⟨w6.heap.size, 3, none⟩ (.bool false)) = w10 at p10 bw10 lw10 z2_0 z2_1 z2_2 z2_3 xg7_2 x7_0 ⊢
  clear hE10
  replace h := h.keep p10
  replace h' := h'.keep p10
  replace h4 := h4.keep p10
  replace h6 := h6.keep p10
  replace h8 := h8.keep p10
  replace h9 := h9.keep p10
  replace hF := hF.keep p10
  clear bw9
  (with_reducible refine (t_add _ b A n c D m e x (t) (k) ?_ b9 A9 n9 c9 A'9 n'9 c'9 false (⟨((tadd ((t')) ((tneg ((t))))).t) / (((2 : Int) : Rat)), false⟩) ((2 * ((k')) + 2 * (((k))) + 3) + (1)) ?_ ?_ ?_ ?_ ?_).mono ?_); (exact h); (exact hF.tk); (first | omega | decide | assumption); (first | omega | decide | assumption); (first | omega | decide | assumption); (first | omega | decide | assumption); rintro e w11 ⟨b11, A11, n11, c11, A'11, n'11, c'11, x11, rfl, h11, hb11⟩
  have q11 : Below w10.heap.size w10 w11 := hb11
  replace h := h.belw q11
  replace h' := h'.belw q11
  replace h4 := h4.belw q11
  replace h6 := h6.belw q11
  replace h8 := h8.belw q11
  replace h9 := h9.belw q11
  replace hF := hF.belw q11
  replace z2_0 := z2_0.below q11 z2_0.lt
  replace z2_1 := z2_1.below q11 z2_1.lt
  replace z2_2 := z2_2.below q11 z2_2.lt
  replace z2_3 := z2_3.below q11 z2_3.lt
  replace xg7_2 := xg7_2.below q11 xg7_2.lt
  replace x7_0 := x7_0.below q11 x7_0.lt
  have bw11 : Below w.heap.size w w11 := bw10.trans (q11.mono bw10.size)
  have lw11 : w10.heap.size ≤ w11.heap.size := q11.size
  clear hb11 q11 bw10
  obtain ⟨cz2_2_0, cz2_2_1, cz2_2_2, cz2_2_3⟩ := z2_2.c4
  obtain ⟨fz2_2_0, fz2_2_1, fz2_2_2, fz2_2_3⟩ := z2_2.f4
  obtain ⟨lz2_2_0, lz2_2_1, lz2_2_2, lz2_2_3⟩ := lts2 z2_2.lt
  go_wp2_with fail
  rw [HT.out]
  refine bodyPost_ret (v := .tuple #[.agg #[.bool b11, .slice A11 n11 c11, .slice A'11 n'11 c'11, .bool x11], .nilIface]) (by simp [results, Tryz.results13, go_sem, *] <;> first | rfl | exact ⟨rfl, rfl⟩) rfl ?_
  have kp := (((((Kp.refl w11).setB (p := ⟨w.heap.size + 1 + 1, 0, none⟩) z2_2.box (by decide) (.bool b11)).setB (p := ⟨w.heap.size + 1 + 1, 1, none⟩) (z2_2.box.set ⟨w.heap.size + 1 + 1, 0, none⟩ (.bool b11)) (by decide) (.slice A11 n11 c11)).setB (p := ⟨w.heap.size + 1 + 1, 2, none⟩) ((z2_2.box.set ⟨w.heap.size + 1 + 1, 0, none⟩ (.bool b11)).set ⟨w.heap.size + 1 + 1, 1, none⟩ (.slice A11 n11 c11)) (by decide) (.slice A'11 n'11 c'11)).setB (p := ⟨w.heap.size + 1 + 1, 3, none⟩) (((z2_2.box.set ⟨w.heap.size + 1 + 1, 0, none⟩ (.bool b11)).set ⟨w.heap.size + 1 + 1, 1, none⟩ (.slice A11 n11 c11)).set ⟨w.heap.size + 1 + 1, 2, none⟩ (.slice A'11 n'11 c'11)) (by decide) (.bool x11))
  exact ⟨b11, A11, n11, c11, A'11, n'11, c'11, x11, rfl, (h11.keep kp).mono (by omega), ((((bw11.setCell (p := ⟨w.heap.size + 1 + 1, 0, none⟩) (by dsimp only; omega) (.bool b11)).setCell (p := ⟨w.heap.size + 1 + 1, 1, none⟩) (by dsimp only; omega) (.slice A11 n11 c11)).setCell (p := ⟨w.heap.size + 1 + 1, 2, none⟩) (by dsimp only; omega) (.slice A'11 n'11 c'11)).setCell (p := ⟨w.heap.size + 1 + 1, 3, none⟩) (by dsimp only; omega) (.bool x11))⟩
set_option maxRecDepth 100000 in
set_option maxHeartbeats 4000000 in
/-- turn.Between -/
theorem t_Between_n (w : World) (b : Bool) (A : Option Addr) (n c : Nat) (D : Option Addr) (m e : Nat) (x : Bool) (t : TN) (k : Nat) (h : TK w b A n c D m e x t k) (b' : Bool) (A' : Option Addr) (n' c' : Nat) (D' : Option Addr) (m' e' : Nat) (x' : Bool) (t' : TN) (k' : Nat) (h' : TK w b' A' n' c' D' m' e' x' t' k') (h0 : 0 < k) (hk : k ≤ 50000) (h0' : 0 < k') (hk' : k' ≤ 50000) (hh : (tadd t' (tneg t)).h = false) (s : Int) (hs : (tadd t' (tneg t)).t.num.sign = s) (hp : ¬ 0 < (tadd t' (tneg t)).t) (hp2 : ¬ 0 < s) :
    Calls Tryz.prog 13 #[.agg #[.bool b, .slice A n c, .slice D m e, .bool x], .agg #[.bool b', .slice A' n' c', .slice D' m' e', .bool x']] w (RetTe w .nilIface (tbetween t t') (6 * k + 4 * k' + 20)) := by
  have HT := Lib.hid (show tbetween t t' = tadd t thalf by unfold tbetween; rw [if_neg (by rw [hh]; decide), if_neg hp])
  have HH := Lib.hid hh
  have HS := Lib.hid hs
  have e0 : decide (s > 0) = false := by simp; omega
  clear hh hs hp hp2
  go_enter Tryz.func13, Tryz.ntmps13
  go_wp2_with fail
  (with_reducible refine (t_checkAll _ (w.heap.size + 1 + 1 + 1) 2 ((k) + (k')) ?_ ?_ ?_ ?_).mono ?_); (exact ts2 (blkAt _ _ _ (by simp)) ((h.belw (((((Below.refl _ _).alloc (Nat.le_refl _) _).alloc (by simp) _).alloc (by simp <;> omega) _).alloc (by simp <;> omega) _)).mono (by omega)) ((h'.belw (((((Below.refl _ _).alloc (Nat.le_refl _) _).alloc (by simp) _).alloc (by simp <;> omega) _).alloc (by simp <;> omega) _)).mono (by omega))); (decide); (omega); (omega); rintro e w1 ⟨rfl, hb1⟩
  have q1 : Below w.heap.size w w1 := (((((Below.refl _ _).alloc (Nat.le_refl _) _).alloc (by simp) _).alloc (by simp <;> omega) _).alloc (by simp <;> omega) _).trans (hb1.mono (by simp <;> omega))
  replace h := h.belw q1
  replace h' := h'.belw q1
  have x1_0 : Blk w1 (w.heap.size) 26 #[.bool b, .slice A n c, .slice D m e, .bool x] := ((((blkAt _ _ _ (by simp)).alloc _).alloc _).alloc _).below hb1 (by simp <;> omega)
  have x1_1 : Blk w1 (w.heap.size + 1) 26 #[.bool b', .slice A' n' c', .slice D' m' e', .bool x'] := (((blkAt _ _ _ (by simp)).alloc _).alloc _).below hb1 (by simp <;> omega)
  have x1_2 : Blk w1 (w.heap.size + 1 + 1) 26 #[.bool false, .slice none 0 0, .slice none 0 0, .bool false] := ((blkAt _ _ _ (by simp)).alloc _).below hb1 (by simp <;> omega)
  have x1_3 : Blk w1 (w.heap.size + 1 + 1 + 1) 26 #[.bool b, .slice A n c, .slice D m e, .bool x, .bool b', .slice A' n' c', .slice D' m' e', .bool x'] := (blkAt _ _ _ (by simp)).below hb1 (by simp)
  have bw1 : Below w.heap.size w w1 := (brefl w).trans (q1.mono (brefl w).size)
  have lw1 : w.heap.size + 4 ≤ w1.heap.size := by have := hb1.size; simp at this; omega
  clear hb1 q1
  obtain ⟨cx1_0_0, cx1_0_1, cx1_0_2, cx1_0_3⟩ := x1_0.c4
  obtain ⟨lx1_0_0, lx1_0_1, lx1_0_2, lx1_0_3⟩ := lts0 x1_0.lt
  obtain ⟨cx1_1_0, cx1_1_1, cx1_1_2, cx1_1_3⟩ := x1_1.c4
  obtain ⟨lx1_1_0, lx1_1_1, lx1_1_2, lx1_1_3⟩ := lts1 x1_1.lt
  go_wp2_with fail
  refine wp_region_lin (B := w.heap.size) (fr := fun xf => ⟨List.toArray (.agg #[.bool b, .slice A n c, .slice D m e, .bool x] :: .agg #[.bool b', .slice A' n' c', .slice D' m' e', .bool x'] :: .pointer (some ⟨w.heap.size, 0, none⟩) :: .pointer (some ⟨w.heap.size + 1, 0, none⟩) :: .pointer (some ⟨w.heap.size + 1 + 1, 0, none⟩) :: .nilIface :: .nilIface :: xf 4 :: undef :: .agg #[.bool b, .slice A n c, .slice D m e, .bool x] :: .agg #[.bool b', .slice A' n' c', .slice D' m' e', .bool x'] :: .slice (some ⟨w.heap.size + 1 + 1 + 1, 0, none⟩) 2 2 :: .nilIface :: .nilIface :: .bool false :: undef :: undef :: xf 0 :: xf 1 :: xf 2 :: xf 3 :: undef :: undef :: undef :: undef :: undef :: undef :: undef :: undef :: undef :: undef :: undef :: undef :: undef :: undef :: undef :: undef :: undef :: undef :: undef :: []), []⟩) (R := fun i => List.getD ((PEq (.agg #[.bool b', .slice A' n' c', .slice D' m' e', .bool x'])) :: (PEq (.agg #[.bool b, .slice A n c, .slice D m e, .bool x])) :: (VT (tneg ((t))) ((k))) :: (VT (tadd ((t')) ((tneg ((t))))) (2 * ((k')) + 2 * (((k))) + 3)) :: PAny :: PAny :: []) i (fun _ _ => True)) (es := [⟨4, 5, 26, #[.bool false, .slice none 0 0, .slice none 0 0, .bool false], CT (tadd ((t')) ((tneg ((t))))) (2 * ((k')) + 2 * (((k))) + 3)⟩]) (ow := [⟨w.heap.size, 6, 0, 26, #[.bool b, .slice A n c, .slice D m e, .bool x], CAny⟩, ⟨w.heap.size + 1, 6, 0, 26, #[.bool b', .slice A' n' c', .slice D' m' e', .bool x'], CAny⟩, ⟨w.heap.size + 1 + 1, 6, 0, 26, #[.bool false, .slice none 0 0, .slice none 0 0, .bool false], CAny⟩, ⟨w.heap.size + 1 + 1 + 1, 6, 0, 26, #[.bool b, .slice A n c, .slice D m e, .bool x, .bool b', .slice A' n' c', .slice D' m' e', .bool x'], CAny⟩]) (x0 := (fun _ => undef)) (by kernel_rfl)
    (each_of ⟨fun _ _ => rfl, fun _ _ => rfl, fun _ _ => rfl, fun _ _ => rfl, fun _ _ => rfl, fun _ _ => rfl, trivial⟩) (each_of (acyc_from _ 0 (by kernel_rfl))) (AllStab.get _ ⟨stEq _, stEq _, stT _ _, stT _ _, stAny, stAny, trivial⟩)
    (List.forall_mem_cons.2 ⟨scT _ _, fun _ h => nomatch h⟩) (List.forall_mem_cons.2 ⟨scAny, List.forall_mem_cons.2 ⟨scAny, List.forall_mem_cons.2 ⟨scAny, List.forall_mem_cons.2 ⟨scAny, fun _ h => nomatch h⟩⟩⟩⟩) (List.forall_mem_cons.2 ⟨⟨by simp, by simp⟩, fun _ h => nomatch h⟩) bw1.size
    (List.forall_mem_cons.2 ⟨⟨x1_0, by show w.heap.size ≤ w.heap.size; omega⟩, List.forall_mem_cons.2 ⟨⟨x1_1, by show w.heap.size ≤ w.heap.size + 1; omega⟩, List.forall_mem_cons.2 ⟨⟨x1_2, by show w.heap.size ≤ w.heap.size + 1 + 1; omega⟩, List.forall_mem_cons.2 ⟨⟨x1_3, by show w.heap.size ≤ w.heap.size + 1 + 1 + 1; omega⟩, fun _ h => nomatch h⟩⟩⟩⟩) (ownDist (by simp <;> omega))
    (each_of ⟨?_, ?_, ?_, ?_, ?_, ?_, trivial⟩) ?_
  · exact .inl ⟨by simp, by simp, fun xf wq hk hbl hd K hK => by
      have y : Blk wq (w.heap.size + 1) 26 #[.bool b', .slice A' n' c', .slice D' m' e', .bool x'] := hbl _ (List.Mem.tail _ (List.Mem.head _)) (by simp [Region.binds])
      obtain ⟨hcl0, hcl1, hcl2, hcl3⟩ := y.c4
      (try dsimp only)
      go_simp
      exact hK.out (.agg #[.bool b', .slice A' n' c', .slice D' m' e', .bool x']) _ rfl (brefl _)⟩
  · exact .inl ⟨by simp, by simp, fun xf wq hk hbl hd K hK => by
      have y : Blk wq (w.heap.size) 26 #[.bool b, .slice A n c, .slice D m e, .bool x] := hbl _ (List.Mem.head _) (by simp [Region.binds])
      obtain ⟨hcl0, hcl1, hcl2, hcl3⟩ := y.c4
      (try dsimp only)
      go_simp
      exact hK.out (.agg #[.bool b, .slice A n c, .slice D m e, .bool x]) _ rfl (brefl _)⟩
  · exact .inl ⟨by simp, by simp, fun xf wq hk hbl hd K hK => by
      have d1 : xf 1 = .agg #[.bool b, .slice A n c, .slice D m e, .bool x] := hd ⟨1, .data⟩ (by simp) rfl
      (try dsimp only); (try simp only [d1])
      go_simp
      go_at_call 27
      (with_reducible refine (t_neg _ b A n c D m e x (t) (k) ?_ ?_ ?_).mono ?_); (exact (h.keep hk)); (first | omega | decide | assumption); (first | omega | decide | assumption); rintro e wr ⟨b3, A3, n3, c3, A'3, n'3, c'3, x3, rfl, h3, hbr⟩
      have hz := hK.out _ _ ⟨b3, A3, n3, c3, A'3, n'3, c'3, x3, rfl, h3⟩ hbr
      simp only [d1] at hz
      exact hz⟩
  · exact .inl ⟨by simp, by simp, fun xf wq hk hbl hd K hK => by
      have d0 : xf 0 = .agg #[.bool b', .slice A' n' c', .slice D' m' e', .bool x'] := hd ⟨0, .data⟩ (by simp) rfl
      obtain ⟨b3, A3, n3, c3, A'3, n'3, c'3, x3, d2, h3⟩ : VT (tneg ((t))) ((k)) (xf 2) wq := hd ⟨2, .data⟩ (by simp) rfl
      (try dsimp only); (try simp only [d0, d2])
      go_simp
      go_at_call 28
      (with_reducible refine (t_add _ b' A' n' c' D' m' e' x' (t') (k') ?_ b3 A3 n3 c3 A'3 n'3 c'3 x3 (tneg ((t))) ((k)) ?_ ?_ ?_ ?_ ?_).mono ?_); (exact (h'.keep hk)); (exact h3.tk); (first | omega | decide | assumption); (first | omega | decide | assumption); (first | omega | decide | assumption); (first | omega | decide | assumption); rintro e wr ⟨b4, A4, n4, c4, A'4, n'4, c'4, x4, rfl, h4, hbr⟩
      have hz := hK.out _ _ ⟨b4, A4, n4, c4, A'4, n'4, c'4, x4, rfl, h4⟩ hbr
      simp only [d0, d2] at hz
      exact hz⟩
  · exact .inr (.inl ⟨⟨4, 5, 26, #[.bool false, .slice none 0 0, .slice none 0 0, .bool false], CT (tadd ((t')) ((tneg ((t))))) (2 * ((k')) + 2 * (((k))) + 3)⟩, by simp, rfl, by simp, by simp, by simp, fun _ _ => True.intro, fun xf wq K hK => by
      (try dsimp only)
      go_simp
      exact hK.out⟩)
  · exact .inr (.inr (.inl ⟨⟨4, 5, 26, #[.bool false, .slice none 0 0, .slice none 0 0, .bool false], CT (tadd ((t')) ((tneg ((t))))) (2 * ((k')) + 2 * (((k))) + 3)⟩, by simp, rfl, by simp, by simp, by simp, by simp, (show KT 26 = false by decide), fun _ _ => True.intro, ⟨⟨4, .data⟩, by simp, rfl, rfl⟩, fun xf wq g hx hblk hd => by
      obtain ⟨b4, A4, n4, c4, A'4, n'4, c'4, x4, d3, h4⟩ : VT (tadd ((t')) ((tneg ((t))))) (2 * ((k')) + 2 * (((k))) + 3) (xf 3) wq := hd ⟨3, .data⟩ (by simp) rfl
      dsimp only at hx hblk
      refine ⟨[.bool b4, .slice A4 n4 c4, .slice A'4 n'4 c'4, .bool x4], fun w' hk => ⟨b4, A4, n4, c4, A'4, n'4, c'4, x4, rfl, h4.keep hk⟩, fun K hK => ?_⟩
      have hc0 : wq.cell? ⟨g, 0, none⟩ = some (.bool false) := hblk.cell 0
      have hc1 : wq.cell? ⟨g, 1, none⟩ = some (.slice none 0 0) := hblk.cell 1
      have hc2 : wq.cell? ⟨g, 2, none⟩ = some (.slice none 0 0) := hblk.cell 2
      have hc3 : wq.cell? ⟨g, 3, none⟩ = some (.bool false) := hblk.cell 3
      have hf0 : wq.frozen? ⟨g, 0, none⟩ = false := hblk.frozen 0
      have hf1 : wq.frozen? ⟨g, 1, none⟩ = false := hblk.frozen 1
      have hf2 : wq.frozen? ⟨g, 2, none⟩ = false := hblk.frozen 2
      have hf3 : wq.frozen? ⟨g, 3, none⟩ = false := hblk.frozen 3
      (try dsimp only)
      simp only [hx, d3]
      go_simp
      have hz := hK.out undef
      simp only [hx, d3] at hz
      exact hz⟩))
  clear cx1_0_0 cx1_0_1 cx1_0_2 cx1_0_3 lx1_0_0 lx1_0_1 lx1_0_2 lx1_0_3 cx1_1_0 cx1_1_1 cx1_1_2 cx1_1_3 lx1_1_0 lx1_1_1 lx1_1_2 lx1_1_3
  intro y2 w2 kq2 hbl2 lw2 how hrr hfl hds
  replace h := h.keep kq2
  replace h' := h'.keep kq2
  obtain ⟨_, z2_0, ez, _⟩ := how _ (List.Mem.head _)
  obtain rfl := ez (by simp)
  dsimp only at z2_0
  obtain ⟨_, z2_1, ez, _⟩ := how _ (List.Mem.tail _ (List.Mem.head _))
  obtain rfl := ez (by simp)
  dsimp only at z2_1
  obtain ⟨_, z2_2, ez, _⟩ := how _ (List.Mem.tail _ (List.Mem.tail _ (List.Mem.head _)))
  obtain rfl := ez (by simp)
  dsimp only at z2_2
  obtain ⟨_, z2_3, ez, _⟩ := how _ (List.Mem.tail _ (List.Mem.tail _ (List.Mem.tail _ (List.Mem.head _))))
  obtain rfl := ez (by simp)
  dsimp only at z2_3
  obtain ⟨g7_2, _, eg7_2, Gg7_2, xg7_2, ⟨b4, A4, n4, c4, A'4, n'4, c'4, x4, rfl, h4⟩⟩ := hfl _ (List.Mem.head _)
  dsimp only at eg7_2 Gg7_2 xg7_2
  have lgg7_2 : g7_2 < w2.heap.size := xg7_2.lt
  (try dsimp only)
  simp only [eg7_2]
  clear hrr hfl how hds eg7_2
  clear x1_0 x1_1 x1_2 x1_3
  have bw2 : Below w.heap.size w w2 := bw1.trans hbl2
  clear bw1
  go_wp2_with fail
  obtain rfl : x4 = false := h4.2.1.trans HH.out
  (with_reducible refine (t_half _).mono ?_); rintro e w6 ⟨b6, A6, n6, c6, A'6, n'6, c'6, x6, rfl, h6, hb6⟩
  have q6 : Below w2.heap.size w2 w6 := hb6
  replace h := h.belw q6
  replace h' := h'.belw q6
  replace h4 := h4.belw q6
  replace z2_0 := z2_0.below q6 z2_0.lt
  replace z2_1 := z2_1.below q6 z2_1.lt
  replace z2_2 := z2_2.below q6 z2_2.lt
  replace z2_3 := z2_3.below q6 z2_3.lt
  replace xg7_2 := xg7_2.below q6 xg7_2.lt
  have bw6 : Below w.heap.size w w6 := bw2.trans (q6.mono bw2.size)
  have lw6 : w2.heap.size ≤ w6.heap.size := q6.size
  clear hb6 q6 bw2
  obtain ⟨cxg7_2_0, cxg7_2_1, cxg7_2_2, cxg7_2_3⟩ := xg7_2.c4
  obtain ⟨lxg7_2_0, lxg7_2_1, lxg7_2_2, lxg7_2_3⟩ := lts0 xg7_2.lt
  go_wp2_with fail
  (with_reducible refine (f_sign_e _ b4 A4 n4 c4 A'4 n'4 c'4 ((tadd ((t')) ((tneg ((t))))).t) (2 * ((k')) + 2 * (((k))) + 3) ?_ (s) ?_ ?_ ?_).mono ?_); (exact (h4.belw ((Below.refl _ _).alloc (Nat.le_refl _) _)).qz); (exact HS.out); (first | omega | decide | assumption); (first | omega | decide | assumption); rintro e w7 ⟨rfl, hb7⟩
  clear cxg7_2_0 cxg7_2_1 cxg7_2_2 cxg7_2_3 lxg7_2_0 lxg7_2_1 lxg7_2_2 lxg7_2_3
  have q7 : Below w6.heap.size w6 w7 := ((Below.refl _ _).alloc (Nat.le_refl _) _).trans (hb7.mono (by simp))
  replace h := h.belw q7
  replace h' := h'.belw q7
  replace h4 := h4.belw q7
  replace h6 := h6.belw q7
  replace z2_0 := z2_0.below q7 z2_0.lt
  replace z2_1 := z2_1.below q7 z2_1.lt
  replace z2_2 := z2_2.below q7 z2_2.lt
  replace z2_3 := z2_3.below q7 z2_3.lt
  replace xg7_2 := xg7_2.below q7 xg7_2.lt
  have x7_0 : Blk w7 (w6.heap.size) 26 #[.bool b6, .slice A6 n6 c6, .slice A'6 n'6 c'6, .bool x6] := (blkAt _ _ _ (by simp)).below hb7 (by simp)
  have bw7 : Below w.heap.size w w7 := bw6.trans (q7.mono bw6.size)
  have lw7 : w6.heap.size + 1 ≤ w7.heap.size := by have := hb7.size; simp at this; omega
  clear hb7 q7 bw6
  obtain ⟨cz2_0_0, cz2_0_1, cz2_0_2, cz2_0_3⟩ := z2_0.c4
  obtain ⟨lz2_0_0, lz2_0_1, lz2_0_2, lz2_0_3⟩ := lts0 z2_0.lt
  obtain ⟨cx7_0_0, cx7_0_1, cx7_0_2, cx7_0_3⟩ := x7_0.c4
  obtain ⟨lx7_0_0, lx7_0_1, lx7_0_2, lx7_0_3⟩ := lts0 x7_0.lt
  go_wp2_with fail
  (with_reducible refine (t_add _ b A n c D m e x (t) (k) ?_ b6 A6 n6 c6 A'6 n'6 c'6 x6 (thalf) (1) ?_ ?_ ?_ ?_ ?_).mono ?_); (exact h); (exact h6.tk); (first | omega | decide | assumption); (first | omega | decide | assumption); (first | omega | decide | assumption); (first | omega | decide | assumption); rintro e w8 ⟨b8, A8, n8, c8, A'8, n'8, c'8, x8, rfl, h8, hb8⟩
  clear cz2_0_0 cz2_0_1 cz2_0_2 cz2_0_3 lz2_0_0 lz2_0_1 lz2_0_2 lz2_0_3 cx7_0_0 cx7_0_1 cx7_0_2 cx7_0_3 lx7_0_0 lx7_0_1 lx7_0_2 lx7_0_3
  have q8 : Below w7.heap.size w7 w8 := hb8
  replace h := h.belw q8
  replace h' := h'.belw q8
  replace h4 := h4.belw q8
  replace h6 := h6.belw q8
  replace z2_0 := z2_0.below q8 z2_0.lt
  replace z2_1 := z2_1.below q8 z2_1.lt
  replace z2_2 := z2_2.below q8 z2_2.lt
  replace z2_3 := z2_3.below q8 z2_3.lt
  replace xg7_2 := xg7_2.below q8 xg7_2.lt
  replace x7_0 := x7_0.below q8 x7_0.lt
  have bw8 : Below w.heap.size w w8 := bw7.trans (q8.mono bw7.size)
  have lw8 : w7.heap.size ≤ w8.heap.size := q8.size
  clear hb8 q8 bw7
  obtain ⟨cz2_2_0, cz2_2_1, cz2_2_2, cz2_2_3⟩ := z2_2.c4
  obtain ⟨fz2_2_0, fz2_2_1, fz2_2_2, fz2_2_3⟩ := z2_2.f4
  obtain ⟨lz2_2_0, lz2_2_1, lz2_2_2, lz2_2_3⟩ := lts2 z2_2.lt
  go_wp2_with fail
  rw [HT.out]
  refine bodyPost_ret (v := .tuple #[.agg #[.bool b8, .slice A8 n8 c8, .slice A'8 n'8 c'8, .bool x8], .nilIface]) (by simp [results, Tryz.results13, go_sem, *] <;> first | rfl | exact ⟨rfl, rfl⟩) rfl ?_
  have kp := (((((Kp.refl w8).setB (p := ⟨w.heap.size + 1 + 1, 0, none⟩) z2_2.box (by decide) (.bool b8)).setB (p := ⟨w.heap.size + 1 + 1, 1, none⟩) (z2_2.box.set ⟨w.heap.size + 1 + 1, 0, none⟩ (.bool b8)) (by decide) (.slice A8 n8 c8)).setB (p := ⟨w.heap.size + 1 + 1, 2, none⟩) ((z2_2.box.set ⟨w.heap.size + 1 + 1, 0, none⟩ (.bool b8)).set ⟨w.heap.size + 1 + 1, 1, none⟩ (.slice A8 n8 c8)) (by decide) (.slice A'8 n'8 c'8)).setB (p := ⟨w.heap.size + 1 + 1, 3, none⟩) (((z2_2.box.set ⟨w.heap.size + 1 + 1, 0, none⟩ (.bool b8)).set ⟨w.heap.size + 1 + 1, 1, none⟩ (.slice A8 n8 c8)).set ⟨w.heap.size + 1 + 1, 2, none⟩ (.slice A'8 n'8 c'8)) (by decide) (.bool x8))
  exact ⟨b8, A8, n8, c8, A'8, n'8, c'8, x8, rfl, (h8.keep kp).mono (by omega), ((((bw8.setCell (p := ⟨w.heap.size + 1 + 1, 0, none⟩) (by dsimp only; omega) (.bool b8)).setCell (p := ⟨w.heap.size + 1 + 1, 1, none⟩) (by dsimp only; omega) (.slice A8 n8 c8)).setCell (p := ⟨w.heap.size + 1 + 1, 2, none⟩) (by dsimp only; omega) (.slice A'8 n'8 c'8)).setCell (p := ⟨w.heap.size + 1 + 1, 3, none⟩) (by dsimp only; omega) (.bool x8))⟩
theorem sgn_pos (q : Rat) : 0 < q.num.sign ↔ 0 < q := by
  rw [show (0 < q) = (0 < q.num) from propext (by rw [Rat.lt_iff]; simp)]
  rcases Int.lt_trichotomy 0 q.num with h | h | h
  · rw [Int.sign_eq_one_of_pos h]; omega
  · rw [← h]; simp
  · rw [Int.sign_eq_neg_one_of_neg h]; omega
theorem t_Between (w : World) (b : Bool) (A : Option Addr) (n c : Nat) (D : Option Addr) (m e : Nat) (x : Bool) (t : TN) (k : Nat) (h : TK w b A n c D m e x t k) (b' : Bool) (A' : Option Addr) (n' c' : Nat) (D' : Option Addr) (m' e' : Nat) (x' : Bool) (t' : TN) (k' : Nat) (h' : TK w b' A' n' c' D' m' e' x' t' k') (h0 : 0 < k) (hk : k ≤ 50000) (h0' : 0 < k') (hk' : k' ≤ 50000) : Calls Tryz.prog 13 #[.agg #[.bool b, .slice A n c, .slice D m e, .bool x], .agg #[.bool b', .slice A' n' c', .slice D' m' e', .bool x']] w (RetTe w .nilIface (tbetween t t') (6 * k + 4 * k' + 20)) := by
  by_cases hh : (tadd t' (tneg t)).h = true
  · exact t_Between_h w b A n c D m e x t k h b' A' n' c' D' m' e' x' t' k' h' h0 hk h0' hk' hh
  · have hf : (tadd t' (tneg t)).h = false := by revert hh; cases (tadd t' (tneg t)).h <;> simp
    by_cases hp : 0 < (tadd t' (tneg t)).t
    · exact t_Between_p w b A n c D m e x t k h b' A' n' c' D' m' e' x' t' k' h' h0 hk h0' hk' hf _ rfl hp ((sgn_pos _).2 hp)
    · exact t_Between_n w b A n c D m e x t k h b' A' n' c' D' m' e' x' t' k' h' h0 hk h0' hk' hf _ rfl hp (fun y => hp ((sgn_pos _).1 y))
end Go.Proofs.YtmneloabphplmaaGreat
