/- Part AM4: lemmas and walks that the claim rests on. No claim is made here. -/
import Derived.Shelf.Strings.Builder1
import Derived.Deep.RegionHeld3
import Derived.BigQuiet
import Derived.Deep.DrawnRows
import Derived.Deep.AppendLies
import Derived.Test.YtoiijifnfdgfpaaGreatDoorAM3
set_option linter.unusedVariables false
set_option maxHeartbeats 8000000
set_option maxRecDepth 100000
/- Linkages: plain: texts. -/
namespace Go.Proofs.YtoiijifnfdgfpaaGreatDoor
open Go Go.RowKit Bn
attribute [local go_sem ↓] Go.wp_at_zero Go.wp_at_succ
def markText (m : MarkL) : List UInt8 := 32 :: (m.name ++ 32 :: (ratText m.x.q ++ 32 :: (ratText m.y.q ++ [59])))
def bodyText (b : BodyL) : List UInt8 := [98, 111, 100, 121, 32] ++ b.name ++ [32, 123] ++ b.pts.flatMap markText ++ [32, 125]
theorem ratText_le {q : Rat} {k : Nat} (hs : Sz q k) (hk : k ≤ 40) : (ratText q).length ≤ 1000 := by
  have h1 := itoa_le (z := q.num) (k := k) (K := 40) hs.1 hk (by decide)
  have h2 := itoa_le (z := (q.den : Int)) (k := k) (K := 40) (by simpa using hs.2) hk (by decide)
  by_cases h : q.den = 1
  · rw [ratText_1 h]; omega
  · rw [ratText_2 h, List.length_append, List.length_cons]; omega
def MkShort (m : MarkL) : Prop := m.name.length ≤ 1000 ∧ Sz m.x.q 40 ∧ Sz m.y.q 40
theorem markText_len {m : MarkL} (h : MkShort m) : (markText m).length ≤ 3010 := by
  have h1 := ratText_le h.2.1 (Nat.le_refl _)
  have h2 := ratText_le h.2.2 (Nat.le_refl _)
  have h3 := h.1
  unfold markText
  simp only [List.length_cons, List.length_append, List.length_nil]
  omega
theorem marks_len : ∀ {l : List MarkL}, (∀ m ∈ l, MkShort m) → (l.flatMap markText).length ≤ 3010 * l.length
  | [], _ => by simp
  | m :: l, h => by
    have h1 := markText_len (h m (by simp))
    have h2 := marks_len (l := l) (fun x hx => h x (by simp [hx]))
    simp only [List.flatMap_cons, List.length_append, List.length_cons]
    omega
theorem flat_step {α : Type} (f : α → List UInt8) {l : List α} {i : Nat} {a : α} (h : l[i]? = some a) : (l.take (i + 1)).flatMap f = (l.take i).flatMap f ++ f a := by
  rw [List.take_add_one, h]
  simp
theorem flat_len {α : Type} (f : α → List UInt8) : ∀ (l : List α) (i : Nat), ((l.take i).flatMap f).length ≤ (l.flatMap f).length
  | [], i => by simp
  | a :: l, 0 => by simp
  | a :: l, i + 1 => by
    have := flat_len f l i
    simp only [List.take_succ_cons, List.flatMap_cons, List.length_append]
    omega
end Go.Proofs.YtoiijifnfdgfpaaGreatDoor

/- Linkages in memory. -/
namespace Go.Proofs.YtoiijifnfdgfpaaGreatDoor
open Go Go.RowKit Bn
attribute [local go_sem ↓] Go.wp_at_zero Go.wp_at_succ
abbrev NmL (s : List UInt8) : Prop := s.length < 4611686018427387904
def RatAt (w : World) (g o : Nat) (r : RD) (k : Nat) : Prop := ∃ b A n c D m e, w.cell? ⟨g, o, none⟩ = some (.bool b) ∧ w.cell? ⟨g, o + 1, none⟩ = some (.slice A n c) ∧ w.cell? ⟨g, o + 2, none⟩ = some (.slice D m e) ∧ QD w b A n c D m e r k
def MkAt (k : Nat) (w : World) (g o : Nat) (m : MarkL) : Prop := w.cell? ⟨g, o, none⟩ = some (strV m.name) ∧ RatAt w g (o + 1) m.x k ∧ RatAt w g (o + 4) m.y k ∧ NmL m.name
def SlS {α : Type} (P : World → Nat → Nat → α → Prop) (s : Nat) (w : World) (A : Option Addr) (n c : Nat) (l : List α) : Prop :=
  l.length = n ∧ n ≤ c ∧ (0 < n → ∃ g o, A = some ⟨g, o, none⟩ ∧ g < w.heap.size ∧ ∀ i a, l[i]? = some a → P w g (o + i * s) a)
def BdAt (k : Nat) (w : World) (g o : Nat) (b : BodyL) : Prop := ∃ A n c, w.cell? ⟨g, o, none⟩ = some (strV b.name) ∧ w.cell? ⟨g, o + 1, none⟩ = some (.slice A n c) ∧ SlS (MkAt k) 7 w A n c b.pts ∧ NmL b.name
def JtAt (w : World) (g o : Nat) (j : JointL) : Prop := w.cell? ⟨g, o, none⟩ = some (strV j.name) ∧ w.cell? ⟨g, o + 1, none⟩ = some (.int .i64 j.kind) ∧ w.cell? ⟨g, o + 2, none⟩ = some (.int .i64 j.a) ∧ w.cell? ⟨g, o + 3, none⟩ = some (.int .i64 j.point) ∧ w.cell? ⟨g, o + 4, none⟩ = some (.int .i64 j.b) ∧ w.cell? ⟨g, o + 5, none⟩ = some (.int .i64 j.on) ∧ w.cell? ⟨g, o + 6, none⟩ = some (.int .i64 j.to_) ∧ NmL j.name
def DrAt (w : World) (g o : Nat) (d : DriverL) : Prop := w.cell? ⟨g, o, none⟩ = some (strV d.name) ∧ w.cell? ⟨g, o + 1, none⟩ = some (.int .i64 d.body) ∧ NmL d.name
structure LkS (k : Nat) (w : World) (A : Option Addr) (n c : Nat) (B : Option Addr) (p d : Nat) (C : Option Addr) (q e : Nat) (L : LinkL) : Prop where
  name : NmL L.name
  bodies : SlS (BdAt k) 2 w A n c L.bodies
  joints : SlS JtAt 7 w B p d L.joints
  drivers : SlS DrAt 2 w C q e L.drivers
theorem cell_belw {w w' : World} {g o : Nat} {v : Value} (h : w.cell? ⟨g, o, none⟩ = some v) (hb : Below w.heap.size w w') : w'.cell? ⟨g, o, none⟩ = some v := (hb.cell (p := ⟨g, o, none⟩) (World.block_lt_of_cell? w _ h)).trans h
theorem RatAt.belw {w w' : World} {g o : Nat} {r : RD} {k : Nat} (h : RatAt w g o r k) (hb : Below w.heap.size w w') : RatAt w' g o r k := by
  obtain ⟨b, A, n, c, D, m, e, h1, h2, h3, h4⟩ := h
  exact ⟨b, A, n, c, D, m, e, cell_belw h1 hb, cell_belw h2 hb, cell_belw h3 hb, h4.belw hb⟩
theorem MkAt.belw {w w' : World} {g o : Nat} {m : MarkL} {k : Nat} (h : MkAt k w g o m) (hb : Below w.heap.size w w') : MkAt k w' g o m := ⟨cell_belw h.1 hb, h.2.1.belw hb, h.2.2.1.belw hb, h.2.2.2⟩
theorem SlS.belw {α : Type} {P : World → Nat → Nat → α → Prop} {s : Nat} {w w' : World} {A : Option Addr} {n c : Nat} {l : List α} (hP : ∀ g o a, P w g o a → P w' g o a) (h : SlS P s w A n c l) (hb : Below w.heap.size w w') : SlS P s w' A n c l := by
  refine ⟨h.1, h.2.1, fun hn => ?_⟩
  obtain ⟨g, o, e, hg, h3⟩ := h.2.2 hn
  exact ⟨g, o, e, Nat.lt_of_lt_of_le hg hb.size, fun i a ha => hP _ _ _ (h3 i a ha)⟩
theorem BdAt.belw {w w' : World} {g o : Nat} {b : BodyL} {k : Nat} (h : BdAt k w g o b) (hb : Below w.heap.size w w') : BdAt k w' g o b := by
  obtain ⟨A, n, c, h1, h2, h3, h4⟩ := h
  exact ⟨A, n, c, cell_belw h1 hb, cell_belw h2 hb, h3.belw (fun _ _ _ h => h.belw hb) hb, h4⟩
theorem JtAt.belw {w w' : World} {g o : Nat} {j : JointL} (h : JtAt w g o j) (hb : Below w.heap.size w w') : JtAt w' g o j :=
  ⟨cell_belw h.1 hb, cell_belw h.2.1 hb, cell_belw h.2.2.1 hb, cell_belw h.2.2.2.1 hb, cell_belw h.2.2.2.2.1 hb, cell_belw h.2.2.2.2.2.1 hb, cell_belw h.2.2.2.2.2.2.1 hb, h.2.2.2.2.2.2.2⟩
theorem DrAt.belw {w w' : World} {g o : Nat} {d : DriverL} (h : DrAt w g o d) (hb : Below w.heap.size w w') : DrAt w' g o d := ⟨cell_belw h.1 hb, cell_belw h.2.1 hb, h.2.2⟩
theorem LkS.belw {k : Nat} {w w' : World} {A B C : Option Addr} {n c p d q e : Nat} {L : LinkL} (h : LkS k w A n c B p d C q e L) (hb : Below w.heap.size w w') : LkS k w' A n c B p d C q e L :=
  ⟨h.name, h.bodies.belw (fun _ _ _ h => h.belw hb) hb, h.joints.belw (fun _ _ _ h => h.belw hb) hb, h.drivers.belw (fun _ _ _ h => h.belw hb) hb⟩
theorem SlS.bd {k : Nat} {w w' : World} {A : Option Addr} {n c : Nat} {l : List BodyL} (h : SlS (BdAt k) 2 w A n c l) (hb : Below w.heap.size w w') : SlS (BdAt k) 2 w' A n c l := h.belw (fun _ _ _ h => h.belw hb) hb
theorem SlS.mk_ {k : Nat} {w w' : World} {A : Option Addr} {n c : Nat} {l : List MarkL} (h : SlS (MkAt k) 7 w A n c l) (hb : Below w.heap.size w w') : SlS (MkAt k) 7 w' A n c l := h.belw (fun _ _ _ h => h.belw hb) hb
theorem SlS.jt {w w' : World} {A : Option Addr} {n c : Nat} {l : List JointL} (h : SlS JtAt 7 w A n c l) (hb : Below w.heap.size w w') : SlS JtAt 7 w' A n c l := h.belw (fun _ _ _ h => h.belw hb) hb
theorem SlS.dr {w w' : World} {A : Option Addr} {n c : Nat} {l : List DriverL} (h : SlS DrAt 2 w A n c l) (hb : Below w.heap.size w w') : SlS DrAt 2 w' A n c l := h.belw (fun _ _ _ h => h.belw hb) hb
theorem SlS.at_ {α : Type} {P : World → Nat → Nat → α → Prop} {s : Nat} {w : World} {A : Option Addr} {n c : Nat} {l : List α} (h : SlS P s w A n c l) {i : Nat} (hi : i < n) : ∃ g o a, A = some ⟨g, o, none⟩ ∧ g < w.heap.size ∧ n ≤ c ∧ l[i]? = some a ∧ P w g (o + i * s) a := by
  obtain ⟨g, o, e, hg, h3⟩ := h.2.2 (by omega)
  have hl : i < l.length := by rw [h.1]; exact hi
  exact ⟨g, o, l[i], e, hg, h.2.1, List.getElem?_eq_getElem hl, h3 i _ (List.getElem?_eq_getElem hl)⟩
theorem SlS.rowAt {α : Type} {P : World → Nat → Nat → α → Prop} {s : Nat} {w : World} {g o n c : Nat} {l : List α} (h : SlS P s w (some ⟨g, o, none⟩) n c l) {j : Nat} (hj : j < n) : ∃ a, l[j]? = some a ∧ P w g (o + j * s) a := by
  obtain ⟨g', o', a, e, _, _, ha, hp⟩ := h.at_ hj
  injection e with e
  injection e with e1 e2 _
  subst e1 e2
  exact ⟨a, ha, hp⟩
end Go.Proofs.YtoiijifnfdgfpaaGreatDoor

/- Walks: strings.Builder: copyCheck (its loader's refusal is never met), WriteString. -/
namespace Go.Proofs.YtoiijifnfdgfpaaGreatDoor
open Go Go.RowKit Bn
attribute [local go_sem ↓] Go.wp_at_zero Go.wp_at_succ
theorem bld_used (b : Nat) (w : World) (h0 : w.cell? ⟨b, 0, none⟩ = some (.pointer (some ⟨b, 0, none⟩))) :
  Calls Tryz.prog 83 #[.pointer (some ⟨b, 0, none⟩)] w fun e w' => e = .returned (.tuple #[]) ∧ w' = w := by
 obtain ⟨j, hj, _⟩ := Option.map_eq_some_iff.1 (show (Tryz.prog.info? 89).map TypeInfo.size = some 2 by kernel_rfl)
 go_enter Tryz.func83, Tryz.ntmps83
 go_wp2
 rw [Lib.run_neq_ptr_same w _ Tryz.underlying86 hj]
 go_wp2
 go_end0
 exact ⟨rfl, rfl⟩
theorem bld_fresh (b : Nat) (w : World) (h0 : w.cell? ⟨b, 0, none⟩ = some (.pointer none)) (hsh : w.shape? b = some (89, 2)) (hfz : w.frozen? ⟨b, 0, none⟩ = false) :
  Calls Tryz.prog 83 #[.pointer (some ⟨b, 0, none⟩)] w fun e w' => e = .returned (.tuple #[]) ∧ w' = w.setCell ⟨b, 0, none⟩ (.pointer (some ⟨b, 0, none⟩)) := by
 obtain ⟨j, hj, hjs⟩ := Option.map_eq_some_iff.1 (show (Tryz.prog.info? 89).map TypeInfo.size = some 2 by kernel_rfl)
 go_enter Tryz.func83, Tryz.ntmps83
 go_wp2
 rw [Lib.run_to_unsafe w ⟨b, 0, none⟩ Tryz.underlying86 Tryz.underlying182 hj (by rw [hjs]; decide) hsh (Nat.zero_lt_succ 1)]
 simp only [Result.andThen]
 rw [Oper.upon_value]
 go_wp2
 rw [run_callFunc_extern Tryz.func138 (by kernel_rfl) (by kernel_rfl) (by kernel_rfl) (e := Extern.AbiNoEscape.same) (by kernel_rfl)]
 rw [Lib.run_noEscape]
 simp only [Result.andThen]
 rw [Oper.upon_value]
 go_wp2
 rw [Lib.run_from_unsafe w ⟨b, 0, none⟩ Tryz.underlying182 Tryz.underlying86 hj hsh (by kernel_rfl)]
 simp only [Result.andThen]
 rw [Oper.upon_value]
 go_wp2
 go_end0
 exact ⟨rfl, rfl⟩
def Oth (b : Nat) (w w' : World) : Prop := ∀ g T cs, g ≠ b → T ≠ 5 → Blk w g T cs → Blk w' g T cs
theorem Oth.refl (b : Nat) (w : World) : Oth b w w := fun _ _ _ _ _ h => h
theorem Oth.set {b : Nat} {w w' : World} (h : Oth b w w') (i : Nat) (u : Value) : Oth b w (w'.setCell ⟨b, i, none⟩ u) := fun g T cs hg hT hb => (h g T cs hg hT hb).far hg u
theorem bld_check (B b : Nat) (bs : List Value) (w : World) (h : Lib.IsBuilder 89 5 B b bs w) :
    Calls Tryz.prog 83 #[.pointer (some ⟨b, 0, none⟩)] w fun e w' => e = .returned (.tuple #[]) ∧ (Lib.BuilderAt 89 5 B b (.pointer (some ⟨b, 0, none⟩)) bs w' ∧ Below B w w' ∧ Oth b w w') := by
  rcases h with h | h
  · refine (bld_fresh b w h.cell0 h.shape h.frozen0).mono ?_
    rintro e w' ⟨rfl, rfl⟩
    exact ⟨rfl, h.used _, (Below.refl B w).setCell (p := ⟨b, 0, none⟩) h.1 _, (Oth.refl b w).set 0 _⟩
  · refine (bld_used b w h.cell0).mono ?_
    rintro e w' ⟨rfl, rfl⟩
    exact ⟨rfl, h, Below.refl B _, Oth.refl b _⟩
theorem bld_write (B b : Nat) (bs : List Value) (s : ByteArray) (w : World) (h : Lib.IsBuilder 89 5 B b bs w) (hlen : bs.length + s.size ≤ 140737488355328) (hBw : B ≤ w.heap.size) :
  Calls Tryz.prog 40 #[.pointer (some ⟨b, 0, none⟩), .string s] w fun e w' => e = .returned (.tuple #[.int .i64 s.size, .nilIface]) ∧ (Lib.BuilderAt 89 5 B b (.pointer (some ⟨b, 0, none⟩)) (bs ++ Lib.strCells s) w' ∧ Below B w w' ∧ Oth b w w') := by
 obtain ⟨i0, hi, hz0, hz1, hz2⟩ := info_parts (show (Tryz.prog.info? 5).map (fun i => (i.zero, i.size, i.bytes)) = some (some (.int .u8 0), 1, 1) by kernel_rfl)
 go_enter Tryz.func40, Tryz.ntmps40
 go_wp2_with (go_at_call 83; refine (bld_check B b bs _ h).mono ?_)
 rintro e w1 ⟨rfl, h1, hb1, ho1⟩
 obtain ⟨hB, v, hbk, hown, hne⟩ := h1
 have c0 : w1.cell? ⟨b, 0, none⟩ = some (.pointer (some ⟨b, 0, none⟩)) := by rw [Lib.cell_of_heap hbk]; rfl
 have c1 : w1.cell? ⟨b, 1, none⟩ = some v := by rw [Lib.cell_of_heap hbk]; rfl
 go_wp2_with (at_builtin; refine Lib.wpList_append_own_string _ rfl _ _ 87 9 rfl B 5 i0 Tryz.underlying87 Tryz.underlying9 hi hz0 hz1 hz2 _ _ _ rfl hown s rfl ?c3 ?c4 ?c5 ?_)
 case c3 => unfold maxLen; omega
 case c4 => omega
 case c5 => have := hb1.size; omega
 intro v' w2 hown' hgrow _
 have hlt : b < w1.heap.size := by
  rcases Nat.lt_or_ge b w1.heap.size with h' | h'
  ·exact h'
  ·simp [Array.getElem?_eq_none h'] at hbk
 have hb2 : w2.heap[b]? = some (.cells #[.pointer (some ⟨b, 0, none⟩), v] 89 (0, 0)) := by
  rw [hgrow.block b hlt (fun e => hne e.symm)]
  exact hbk
 have d0 : w2.cell? ⟨b, 0, none⟩ = some (.pointer (some ⟨b, 0, none⟩)) := by rw [Lib.cell_of_heap hb2]; rfl
 have d1 : w2.cell? ⟨b, 1, none⟩ = some v := by rw [Lib.cell_of_heap hb2]; rfl
 have f1 : w2.frozen? ⟨b, 1, none⟩ = false := Lib.frozen_of_heap hb2 1
 obtain ⟨ao, n', cap, rfl⟩ : ∃ ao n' cap, v' = .slice ao n' cap := by
  rcases hown'.2 with ⟨hv, _⟩ | ⟨g, cap, cur, hv, _⟩
  ·exact ⟨_, _, _, hv⟩
  ·exact ⟨_, _, _, hv⟩
 go_wp2
 go_ret2
 refine ⟨rfl, ?_, ?_, Oth.set (fun g T cs hg hT hb => ?_) 1 _⟩
 ·exact Lib.BuilderAt.put (T := 89) (e := 5) hB hb2 (bs' := bs ++ Lib.strCells s) (by simpa [Lib.strCells_length] using hown') (by decide)
 ·exact (hb1.grown hgrow (by have := hb1.size; omega) (fun k hk => (hown.lt k hk).1)).setCell (p := ⟨b, 1, none⟩) hB _
 ·have h9 := ho1 g T cs hg hT hb
  refine (hgrow.block g h9.lt (fun hgv => ?_)).trans h9
  rcases hown.2 with ⟨hv, _⟩ | ⟨g', cap, cur, hv, _, hk, _⟩
  ·rw [hv] at hgv; cases hgv
  ·rw [hv] at hgv
   injection hgv with hgv
   subst hgv
   have := h9.symm.trans hk
   simp only [Option.some.injEq, Obj.cells.injEq] at this
   exact hT this.2.1
end Go.Proofs.YtoiijifnfdgfpaaGreatDoor

/- Walks: texts of linkages: numbers; a builder of a call's own. -/
namespace Go.Proofs.YtoiijifnfdgfpaaGreatDoor
open Go Go.RowKit Bn
attribute [local go_sem ↓] Go.wp_at_zero Go.wp_at_succ
theorem p_number (w : World) (b : Bool) (A : Option Addr) (n c : Nat) (D : Option Addr) (m e : Nat) (r : RD) (k : Nat) (h : QD w b A n c D m e r k) (h0 : 0 < k) (hk : k ≤ 40000000) (htab : Tab w) (T : List UInt8) (hT : ratText r.q = T) :
  Calls Tryz.prog 35 #[.agg #[.bool b, .slice A n c, .slice D m e]] w (RetV w (strV T)) := by
 have H := Lib.hid h
 have HT := Lib.hid hT
 clear h hT
 go_enter Tryz.func35, Tryz.ntmps35
 go_wp2_with fail
 have q0 : Below w.heap.size w (w.alloc (.cells #[.bool b, .slice A n c, .slice D m e] 72)) := (Below.refl _ _).alloc (Nat.le_refl _) _
 (with_reducible refine (f_text _ b A n c D m e r.q k (H.out.belw q0).qz h0 hk (htab.belw q0) T HT.out).mono ?_); rintro e' w1 ⟨rfl, hb1⟩
 have q1 := q0.trans (hb1.mono q0.size)
 go_wp2_with fail
 go_ret
 exact ⟨rfl, q1⟩
def Bu (B b : Nat) (w : World) (l : List UInt8) : Prop := Lib.IsBuilder 89 5 B b (Lib.byteCells l) w ∧ B ≤ w.heap.size
theorem BuilderAt.belw {T e : TypeId} {B b : Nat} {p : Value} {bs : List Value} {w w' : World} (h : Lib.BuilderAt T e B b p bs w) (hb : Below w.heap.size w w') : Lib.BuilderAt T e B b p bs w' := by
  have hlt := h.lt
  obtain ⟨hB, v, hk, hown, hne⟩ := h
  refine ⟨hB, v, (hb.block b hlt).trans hk, ⟨hown.1, ?_⟩, hne⟩
  rcases hown.2 with h1 | ⟨g, cap, cur, h1, h2, h3, h4⟩
  · exact Or.inl h1
  · refine Or.inr ⟨g, cap, cur, h1, h2, (hb.block g ?_).trans h3, h4⟩
    exact lt_of_block h3
theorem Bu.belw {B b : Nat} {w w' : World} {l : List UInt8} (h : Bu B b w l) (hb : Below w.heap.size w w') : Bu B b w' l :=
  ⟨h.1.imp (fun x => BuilderAt.belw x hb) (fun x => BuilderAt.belw x hb), Nat.le_trans h.2 hb.size⟩
theorem Bu.lt {B b : Nat} {w : World} {l : List UInt8} (h : Bu B b w l) : b < w.heap.size := h.1.elim (fun x => x.lt) (fun x => x.lt)
theorem Bu.new {w : World} : Bu w.heap.size w.heap.size (w.alloc (.cells #[.pointer none, .slice none 0 0] 89)) [] :=
  ⟨Lib.fresh_isBuilder _ _ w, by simp⟩
theorem byteCells_app (a : List UInt8) (b : List UInt8) : Lib.byteCells a ++ Lib.strCells ⟨b.toArray⟩ = Lib.byteCells (a ++ b) := by
  simp [Lib.strCells, Lib.byteCells]
theorem bu_write (B b : Nat) (w : World) (l s : List UInt8) (h : Bu B b w l) (hlen : l.length + s.length ≤ 140737488355328) :
    Calls Tryz.prog 40 #[.pointer (some ⟨b, 0, none⟩), strV s] w fun e w' => e = .returned (.tuple #[.int .i64 (s.length : Nat), .nilIface]) ∧ Bu B b w' (l ++ s) ∧ Below B w w' ∧ Oth b w w' := by
  have hz : (⟨s.toArray⟩ : ByteArray).size = s.length := size_v s
  refine (bld_write B b (Lib.byteCells l) ⟨s.toArray⟩ w h.1 (by rw [hz]; simpa [Lib.byteCells] using hlen) h.2).mono ?_
  rintro e w' ⟨rfl, h1, h2, h3⟩
  rw [byteCells_app] at h1
  exact ⟨by rw [hz], ⟨Or.inr h1, Nat.le_trans h.2 h2.size⟩, h2, h3⟩
theorem bu_len (B b : Nat) (w : World) (l : List UInt8) (h : Bu B b w l) :
    Calls Tryz.prog 43 #[.pointer (some ⟨b, 0, none⟩)] w fun e w' => e = .returned (.int .i64 (l.length : Nat)) ∧ w' = w := by
  refine (Tryz.Builder_Len B b _ w h.1).mono ?_
  rintro e w' ⟨rfl, rfl⟩
  exact ⟨by simp [Lib.byteCells], rfl⟩
theorem bu_str (B b : Nat) (w : World) (l : List UInt8) (h : Bu B b w l) :
    Calls Tryz.prog 44 #[.pointer (some ⟨b, 0, none⟩)] w fun e w' => e = .returned (strV l) ∧ Below B w w' := Tryz.Builder_String_any B b l w h.1 h.2
end Go.Proofs.YtoiijifnfdgfpaaGreatDoor

/- Walks: texts of linkages: bodies (program). -/
namespace Go.Proofs.YtoiijifnfdgfpaaGreatDoor
open Go Go.RowKit Bn
attribute [local go_sem ↓] Go.wp_at_zero Go.wp_at_succ
theorem Blk.c7 {w : World} {g t : Nat} {a0 a1 a2 a3 a4 a5 a6 : Value} (h : Blk w g t #[a0, a1, a2, a3, a4, a5, a6]) : w.cell? ⟨g, 0, none⟩ = some a0 ∧ w.cell? ⟨g, 1, none⟩ = some a1 ∧ w.cell? ⟨g, 2, none⟩ = some a2 ∧ w.cell? ⟨g, 3, none⟩ = some a3 ∧ w.cell? ⟨g, 4, none⟩ = some a4 ∧ w.cell? ⟨g, 5, none⟩ = some a5 ∧ w.cell? ⟨g, 6, none⟩ = some a6 := ⟨h.cell 0, h.cell 1, h.cell 2, h.cell 3, h.cell 4, h.cell 5, h.cell 6⟩
abbrev S7 (g : Nat) (a0 a1 a2 a3 a4 a5 a6 : Value) (w : World) : Prop := w.cell? ⟨g, 0, none⟩ = some a0 ∧ w.cell? ⟨g, 1, none⟩ = some a1 ∧ w.cell? ⟨g, 2, none⟩ = some a2 ∧ w.cell? ⟨g, 3, none⟩ = some a3 ∧ w.cell? ⟨g, 4, none⟩ = some a4 ∧ w.cell? ⟨g, 5, none⟩ = some a5 ∧ w.cell? ⟨g, 6, none⟩ = some a6
theorem MkAt.short {w : World} {g o : Nat} {m : MarkL} (h : MkAt 40 w g o m) (hm : m.name.length ≤ 1000) : MkShort m := by
  obtain ⟨_, ⟨b, A, n, c, D, m1, e, _, _, _, h1⟩, ⟨b', A', n', c', D', m1', e', _, _, _, h2⟩, _⟩ := h
  exact ⟨hm, h1.sz (by decide), h2.sz (by decide)⟩
theorem SlS.short {w : World} {A : Option Addr} {n c : Nat} {l : List MarkL} (h : SlS (MkAt 40) 7 w A n c l) (hms : ∀ m ∈ l, m.name.length ≤ 1000) : ∀ m ∈ l, MkShort m := by
  intro m hm
  obtain ⟨i, hi, e⟩ := List.getElem_of_mem hm
  obtain ⟨g, o, a, _, _, _, ha, hp⟩ := h.at_ (i := i) (by rw [← h.1]; exact hi)
  rw [List.getElem?_eq_getElem hi] at ha
  injection ha with ha
  rw [← ha, e] at hp
  exact hp.short (hms m hm)
theorem p_body (w : World) (A : Option Addr) (n c : Nat) (b : BodyL) (h : SlS (MkAt 40) 7 w A n c b.pts) (htab : Tab w) (hn : n ≤ 1000) (hnm : b.name.length ≤ 1000) (hms : ∀ m ∈ b.pts, m.name.length ≤ 1000) (T : List UInt8) (hT : bodyText b = T) :
  Calls Tryz.prog 38 #[.agg #[strV b.name, .slice A n c]] w (RetV w (strV T)) := by
 have HM := Lib.hid (h.short hms)
 have HF := Lib.hid (marks_len (h.short hms))
 have hlen := h.1
 have hnc := h.2.1
 have hsn := size_v b.name
 obtain ⟨h1, eh1⟩ : ∃ t, [98, 111, 100, 121, 32] ++ b.name = t := ⟨_, rfl⟩
 have ah1 := app_v ([98, 111, 100, 121, 32]) (b.name)
 rw [eh1] at ah1
 have lh1 : h1.length = 5 + b.name.length := by rw [← eh1, List.length_append]; try simp
 have kh1 : (9223372036854775807 < 5 + b.name.length) = False := eq_false (by omega)
 have zh1 := size_v h1
 obtain ⟨h2, eh2⟩ : ∃ t, h1 ++ [32, 123] = t := ⟨_, rfl⟩
 have ah2 := app_v (h1) ([32, 123])
 rw [eh2] at ah2
 have lh2 : h2.length = h1.length + 2 := by rw [← eh2, List.length_append]; try simp
 have kh2 : (9223372036854775807 < h1.length + 2) = False := eq_false (by omega)
 have zh2 := size_v h2
 have HE : Hid (b.pts.flatMap markText ++ [32, 125] ++ [] = b.pts.flatMap markText ++ [32, 125] ∧ T = h2 ++ b.pts.flatMap markText ++ [32, 125]) := Lib.hid ⟨by simp, by rw [← hT, ← eh2, ← eh1]; rfl⟩
 have HLN := Lib.hid hlen
 have HTab := Lib.hid htab
 have H := Lib.hid h
 have hl2 : h2.length ≤ 1007 := by omega
 clear h hms hT htab hlen eh1 eh2 lh1 lh2
 go_enter Tryz.func38, Tryz.ntmps38
 go_wp2_with fail
 have B0 : Bu (w.heap.size + 1) (w.heap.size + 1) ((w.alloc (.cells #[strV b.name, .slice A n c] 56)).alloc (.cells #[.pointer none, .slice none 0 0] 89)) [] := by
  have := Bu.new (w := w.alloc (.cells #[strV b.name, .slice A n c] 56))
  simpa using this
 have q0 : Below w.heap.size w ((w.alloc (.cells #[strV b.name, .slice A n c] 56)).alloc (.cells #[.pointer none, .slice none 0 0] 89)) := ((brefl w).alloc (Nat.le_refl _) _).alloc (by simp) _
 have xa : Blk ((w.alloc (.cells #[strV b.name, .slice A n c] 56)).alloc (.cells #[.pointer none, .slice none 0 0] 89)) w.heap.size 56 #[strV b.name, .slice A n c] := (blkAt _ _ _ rfl).alloc _
 (with_reducible refine (bu_write _ _ _ _ h2 B0 (by simp; omega)).mono ?_); rintro e' w1 ⟨rfl, B1, q1, _⟩
 have q1 : Below w.heap.size w w1 := q0.trans (q1.mono (by omega))
 have xa := xa.below ‹Below (w.heap.size + 1) _ w1› (by omega)
 rw [List.nil_append] at B1
 clear B0 q0
 obtain ⟨cA0, cA1⟩ := xa.c2
 have HB := Lib.hid B1
 clear B1
 go_wp2_with fail
 clear cA0 cA1
 go_loopw [14] (fun iv wr => ∃ i : Nat, iv = .int .i64 (i : Nat) ∧ i ≤ n ∧ Hid (Bu (w.heap.size + 1) (w.heap.size + 1) wr (h2 ++ (b.pts.take i).flatMap markText)) ∧ Below w.heap.size w wr) (fun iv _ => n - (intOf iv).toNat)
 case atStart => exact ⟨0, rfl, Nat.zero_le _, by simpa using HB, q1⟩
 case round =>
  clear HB q1
  obtain ⟨i, rfl, hi, HB, hb⟩ := hrel
  rename World => wa
  have hfl := flat_len markText b.pts i
  rcases Nat.lt_or_ge i n with hlt | hge
  ·have hi1 : ((i : Int) < (n : Int)) = True := by simp; omega
   obtain ⟨g, o, m, e1, hg, _, hbi, hM⟩ := (H.out.mk_ hb).at_ hlt
   subst e1
   have hsh := HM.out m (List.mem_of_getElem? hbi)
   obtain ⟨hm1, hm2, hm3⟩ := hsh
   have hfs := flat_step markText hbi
   have hfl2 := flat_len markText b.pts (i + 1)
   obtain ⟨d0, ⟨b1, A1, n1, c1, D1, m1, e1, d1, d2, d3, hQ1⟩, ⟨b2, A2, n2, c2, D2, m2, e2, d4, d5, d6, hQ2⟩, hmn⟩ := hM
   have d2 : wa.cell? ⟨g, o + i * 7 + 2, none⟩ = some (.slice A1 n1 c1) := d2
   have d3 : wa.cell? ⟨g, o + i * 7 + 3, none⟩ = some (.slice D1 m1 e1) := d3
   have d5 : wa.cell? ⟨g, o + i * 7 + 5, none⟩ = some (.slice A2 n2 c2) := d5
   have d6 : wa.cell? ⟨g, o + i * 7 + 6, none⟩ = some (.slice D2 m2 e2) := d6
   have hsm := size_v m.name
   obtain ⟨X, hX⟩ : ∃ X, ratText m.x.q = X := ⟨_, rfl⟩
   obtain ⟨Y, hY⟩ : ∃ Y, ratText m.y.q = Y := ⟨_, rfl⟩
   have hsX := size_v X
   have hsY := size_v Y
   have hlX : X.length ≤ 1000 := by rw [← hX]; exact ratText_le hm2 (Nat.le_refl _)
   have hlY : Y.length ≤ 1000 := by rw [← hY]; exact ratText_le hm3 (Nat.le_refl _)
   obtain ⟨s1, es1⟩ : ∃ t, [32] ++ m.name = t := ⟨_, rfl⟩
   have as1 := app_v ([32]) (m.name)
   rw [es1] at as1
   have ls1 : s1.length = 1 + m.name.length := by rw [← es1, List.length_append]; try simp
   have ks1 : (9223372036854775807 < 1 + m.name.length) = False := eq_false (by omega)
   have zs1 := size_v s1
   obtain ⟨s2, es2⟩ : ∃ t, s1 ++ [32] = t := ⟨_, rfl⟩
   have as2 := app_v (s1) ([32])
   rw [es2] at as2
   have ls2 : s2.length = s1.length + 1 := by rw [← es2, List.length_append]; try simp
   have ks2 : (9223372036854775807 < s1.length + 1) = False := eq_false (by omega)
   have zs2 := size_v s2
   obtain ⟨s3, es3⟩ : ∃ t, s2 ++ X = t := ⟨_, rfl⟩
   have as3 := app_v (s2) (X)
   rw [es3] at as3
   have ls3 : s3.length = s2.length + X.length := by rw [← es3, List.length_append]; try simp
   have ks3 : (9223372036854775807 < s2.length + X.length) = False := eq_false (by omega)
   have zs3 := size_v s3
   obtain ⟨s4, es4⟩ : ∃ t, s3 ++ [32] = t := ⟨_, rfl⟩
   have as4 := app_v (s3) ([32])
   rw [es4] at as4
   have ls4 : s4.length = s3.length + 1 := by rw [← es4, List.length_append]; try simp
   have ks4 : (9223372036854775807 < s3.length + 1) = False := eq_false (by omega)
   have zs4 := size_v s4
   obtain ⟨s5, es5⟩ : ∃ t, s4 ++ Y = t := ⟨_, rfl⟩
   have as5 := app_v (s4) (Y)
   rw [es5] at as5
   have ls5 : s5.length = s4.length + Y.length := by rw [← es5, List.length_append]; try simp
   have ks5 : (9223372036854775807 < s4.length + Y.length) = False := eq_false (by omega)
   have zs5 := size_v s5
   obtain ⟨s6, es6⟩ : ∃ t, s5 ++ [59] = t := ⟨_, rfl⟩
   have as6 := app_v (s5) ([59])
   rw [es6] at as6
   have ls6 : s6.length = s5.length + 1 := by rw [← es6, List.length_append]; try simp
   have ks6 : (9223372036854775807 < s5.length + 1) = False := eq_false (by omega)
   have zs6 := size_v s6
   have hmt : markText m = s6 := by
    rw [← es6, ← es5, ← es4, ← es3, ← es2, ← es1, ← hX, ← hY]
    unfold markText
    simp
   rw [hmt] at hfs
   have hls : ((b.pts.take i).flatMap markText).length + s6.length ≤ 3010 * n := by
    have := congrArg List.length hfs
    rw [List.length_append] at this
    have h9 := HF.out
    have h8 := HLN.out
    rw [h8] at h9
    omega
   have HX := Lib.hid hX
   have HY := Lib.hid hY
   have HFS := Lib.hid hfs
   have HQ1 := Lib.hid hQ1
   have HQ2 := Lib.hid hQ2
   have HLS := Lib.hid hls
   have hga : g < wa.heap.size := hg
   clear hX hY hfs hQ1 hQ2 hls hmt hfl hfl2 hbi hm1 hm2 hm3 es1 es2 es3 es4 es5 es6 ls1 ls2 ls3 ls4 ls5 ls6
   go_wp2_with fail
   have xp : Blk (wa.alloc (.cells #[strV m.name, .bool b1, .slice A1 n1 c1, .slice D1 m1 e1, .bool b2, .slice A2 n2 c2, .slice D2 m2 e2] 85)) wa.heap.size 85 #[strV m.name, .bool b1, .slice A1 n1 c1, .slice D1 m1 e1, .bool b2, .slice A2 n2 c2, .slice D2 m2 e2] := blkAt _ _ _ rfl
   have qb : Below wa.heap.size wa (wa.alloc (.cells #[strV m.name, .bool b1, .slice A1 n1 c1, .slice D1 m1 e1, .bool b2, .slice A2 n2 c2, .slice D2 m2 e2] 85)) := (brefl wa).alloc (Nat.le_refl _) _
   have HBb := Lib.hid (HB.out.belw qb)
   have HTb := Lib.hid ((HTab.out.belw hb).belw qb)
   have HQ1b := Lib.hid (HQ1.out.belw qb)
   have HQ2b := Lib.hid (HQ2.out.belw qb)
   have bwb := hb.trans (qb.mono hb.size)
   have hwb : wa.heap.size < (wa.alloc (.cells #[strV m.name, .bool b1, .slice A1 n1 c1, .slice D1 m1 e1, .bool b2, .slice A2 n2 c2, .slice D2 m2 e2] 85)).heap.size := xp.lt
   have hbl : wa.heap.size ≠ w.heap.size + 1 := by have := HB.out.lt; omega
   clear HB HQ1 HQ2 d0 d1 d2 d3 d4 d5 d6
   generalize (wa.alloc (.cells #[strV m.name, .bool b1, .slice A1 n1 c1, .slice D1 m1 e1, .bool b2, .slice A2 n2 c2, .slice D2 m2 e2] 85)) = wb at xp qb HBb HTb HQ1b HQ2b bwb hwb ⊢
   obtain ⟨cp0, cp1, cp2, cp3, cp4, cp5, cp6⟩ := xp.c7
   go_region_held3 (S7 wa.heap.size (strV m.name) (.bool b1) (.slice A1 n1 c1) (.slice D1 m1 e1) (.bool b2) (.slice A2 n2 c2) (.slice D2 m2 e2)) (first | with_reducible exact Blk.c7 (by assumption) | with_reducible exact Blk.c7 (Blk.drew (by assumption)) | exact Blk.c7 (Blk.drewN (by assumption) _))
    (first
     | (go_at_call 35; (with_reducible refine (p_number _ b1 A1 n1 c1 D1 m1 e1 m.x 40 ?_ (by decide) (by decide) ?_ X HX.out).mono ?_); (exact HQ1b.out.belw (by first | exact qwy | exact (brefl wb).drew | exact below_drewN (brefl wb) _)); (exact HTb.out.belw (by first | exact qwy | exact (brefl wb).drew | exact below_drewN (brefl wb) _)); rintro e' wx ⟨rfl, hwx⟩; have qwx : Below wb.heap.size wb wx := (by first | exact bnext qwy hwx | exact bnext (brefl wb) hwx | exact bnext (below_drewN (brefl wb) _) hwx); have xwx := xp.below qwx xp.lt)
     | (go_at_call 35; (with_reducible refine (p_number _ b2 A2 n2 c2 D2 m2 e2 m.y 40 ?_ (by decide) (by decide) ?_ Y HY.out).mono ?_); (exact HQ2b.out.belw (by first | exact qwx | exact (brefl wb).drew | exact below_drewN (brefl wb) _)); (exact HTb.out.belw (by first | exact qwx | exact (brefl wb).drew | exact below_drewN (brefl wb) _)); rintro e' wy ⟨rfl, hwy⟩; have qwy : Below wb.heap.size wb wy := (by first | exact bnext qwx hwy | exact bnext (brefl wb) hwy | exact bnext (below_drewN (brefl wb) _) hwy); have xwy := xp.below qwy xp.lt)
     | (go_at_call 40; (with_reducible refine (bu_write _ _ _ _ s6 (HBb.out.belw (by first | exact qwx | exact qwy)) (by rw [List.length_append]; have := HLS.out; omega)).mono ?_); rintro e' wz ⟨rfl, Bz, qz, oz⟩; have xz := oz wa.heap.size 85 _ hbl (by decide) (by first | exact xwx | exact xwy)))
   all_goals
    have bz : Below w.heap.size w wz := by
     first
      | exact (bwb.trans (qwy.mono bwb.size)).trans (qz.mono (Nat.le_succ _))
      | exact (bwb.trans (qwx.mono bwb.size)).trans (qz.mono (Nat.le_succ _))
    have HBz : Hid (Bu (w.heap.size + 1) (w.heap.size + 1) wz (h2 ++ (b.pts.take (i + 1)).flatMap markText)) := Lib.hid (by rw [HFS.out, ← List.append_assoc]; exact Bz)
    clear Bz HFS cp0 cp1 cp2 cp3 cp4 cp5 cp6
    go_wp2_with fail
    go_roundw
    case rel => exact ⟨i + 1, by go_num, by omega, HBz, bz⟩
    case measure => simp [intOf]; omega
  ·have hi1 : ((i : Int) < (n : Int)) = False := by simp; omega
   have hin : b.pts.take i = b.pts := List.take_of_length_le (by rw [HLN.out]; exact hge)
   rw [hin] at HB
   have hf := HF.out
   rw [HLN.out] at hf
   have HFL := Lib.hid hf
   clear hf hin hfl
   go_wp2_with fail
   (with_reducible refine (bu_write _ _ _ _ [32, 125] HB.out (by rw [List.length_append]; have := HFL.out; simp only [List.length_cons, List.length_nil]; omega)).mono ?_); rintro e' w2 ⟨rfl, B2, q2, _⟩
   have b2 := hb.trans (q2.mono (Nat.le_succ _))
   have HB2 := Lib.hid B2
   clear B2
   go_wp2_with fail
   (with_reducible refine (bu_str _ _ _ _ HB2.out).mono ?_); rintro e' w3 ⟨rfl, q3⟩
   have b3 := b2.trans (q3.mono (Nat.le_succ _))
   have hTT : h2 ++ b.pts.flatMap markText ++ [32, 125] = T := HE.out.2.symm
   rw [hTT]
   go_wp2_with fail
   go_ret
   exact ⟨rfl, b3⟩
end Go.Proofs.YtoiijifnfdgfpaaGreatDoor

/- Walks: texts of linkages: full names (both). -/
namespace Go.Proofs.YtoiijifnfdgfpaaGreatDoor
open Go Go.RowKit Bn
attribute [local go_sem ↓] Go.wp_at_zero Go.wp_at_succ
theorem p_full (w : World) (A : Option Addr) (n c : Nat) (B : Option Addr) (p d : Nat) (C : Option Addr) (q e : Nat) (nm : List UInt8) (l : List BodyL) (k : Nat) (h : SlS (BdAt k) 2 w A n c l) (i j : Nat) (b : BodyL) (m : MarkL) (hb : l[i]? = some b) (hm : b.pts[j]? = some m) (hlb : b.name.length ≤ 1000) (hlm : m.name.length ≤ 1000) (T : List UInt8) (hT : b.name ++ 46 :: m.name = T) :
  Calls Tryz.prog 81 #[.agg #[strV nm, .slice A n c, .slice B p d, .slice C q e], .int .i64 (i : Nat), .int .i64 (j : Nat)] w (RetV w (strV T)) := by
 have hil : i < n := by rw [← h.1]; exact (List.getElem?_eq_some_iff.1 hb).1
 obtain ⟨g, o, b', e1, hg, hnc, hb', hB⟩ := h.at_ hil
 rw [hb] at hb'
 injection hb' with hb'
 subst hb' e1
 obtain ⟨A', n', c', c0, c1, hM, _⟩ := hB
 have hjl : j < n' := by rw [← hM.1]; exact (List.getElem?_eq_some_iff.1 hm).1
 obtain ⟨g', o', m', e1, hg', hnc', hm', hK⟩ := hM.at_ hjl
 rw [hm] at hm'
 injection hm' with hm'
 subst hm' e1
 have k0 := hK.1
 have f1 : ((i : Int) < (n : Int)) := by omega
 have f2 : ((j : Int) < (n' : Int)) := by omega
 have hsb := size_v b.name
 have hsm := size_v m.name
 obtain ⟨h1, eh1⟩ : ∃ t, b.name ++ [46] = t := ⟨_, rfl⟩
 have ah1 := app_v (b.name) ([46])
 rw [eh1] at ah1
 have lh1 : h1.length = b.name.length + 1 := by rw [← eh1, List.length_append]; try simp
 have kh1 : (9223372036854775807 < b.name.length + 1) = False := eq_false (by omega)
 have zh1 := size_v h1
 obtain ⟨h2, eh2⟩ : ∃ t, h1 ++ m.name = t := ⟨_, rfl⟩
 have ah2 := app_v (h1) (m.name)
 rw [eh2] at ah2
 have lh2 : h2.length = h1.length + m.name.length := by rw [← eh2, List.length_append]; try simp
 have kh2 : (9223372036854775807 < h1.length + m.name.length) = False := eq_false (by omega)
 have zh2 := size_v h2
 have hTT : h2 = T := by rw [← hT, ← eh2, ← eh1]; simp
 subst hTT
 have hgl : ¬ g = w.heap.size := by omega
 have hgl' : ¬ g' = w.heap.size := by omega
 have hgl2 : ¬ g' = w.heap.size + 1 := by omega
 have hnn : ((i : Int) ≤ (n : Int)) := by omega
 clear hb hm hM hK h hT eh1 eh2 lh1 lh2
 go_enter Tryz.func81, Tryz.ntmps81
 go_wp2_with fail
 go_quiet (fail)
 go_wp2_with fail
 go_ret
 exact ⟨rfl, by first | exact ((brefl w).alloc (Nat.le_refl _) _).alloc (by simp) _ | exact below_drewN (((brefl w).alloc (Nat.le_refl _) _).alloc (by simp) _) _⟩
end Go.Proofs.YtoiijifnfdgfpaaGreatDoor

/- Walks: texts of linkages: long numbers (both). -/
namespace Go.Proofs.YtoiijifnfdgfpaaGreatDoor
open Go Go.RowKit Bn
attribute [local go_sem ↓] Go.wp_at_zero Go.wp_at_succ
def longM (m : MarkL) : Bool := decide (60 < (ratText m.x.q).length) || decide (60 < (ratText m.y.q).length)
def longL (l : List BodyL) : Bool := l.any fun b => b.pts.any longM
theorem any_step {α : Type} {f : α → Bool} {l : List α} {i : Nat} {a : α} (ha : l[i]? = some a) (h : (l.take i).any f = false) (hf : f a = false) : (l.take (i + 1)).any f = false := by
  rw [List.take_add_one, ha, List.any_append, h]
  simp [hf]
theorem any_hit {α : Type} {f : α → Bool} {l : List α} {i : Nat} {a : α} (ha : l[i]? = some a) (hf : f a = true) : l.any f = true :=
  List.any_eq_true.2 ⟨a, List.mem_of_getElem? ha, hf⟩
theorem longL_step {l : List BodyL} {i : Nat} {b : BodyL} (hb : l[i]? = some b) (h : longL (l.take i) = false) (hf : b.pts.any longM = false) : longL (l.take (i + 1)) = false := any_step hb h hf
theorem longL_hit {l : List BodyL} {i j : Nat} {b : BodyL} {m : MarkL} (hb : l[i]? = some b) (hm : b.pts[j]? = some m) (h : longM m = true) : longL l = true := any_hit hb (any_hit hm h)
theorem p_long (w : World) (A : Option Addr) (n c : Nat) (B : Option Addr) (p d : Nat) (C : Option Addr) (q e : Nat) (nm : List UInt8) (l : List BodyL) (h : SlS (BdAt 40) 2 w A n c l) (htab : Tab w) (hn : n ≤ 1000) (hps : ∀ b ∈ l, b.pts.length ≤ 1000) (v : Bool) (hv : longL l = v) :
  Calls Tryz.prog 82 #[.agg #[strV nm, .slice A n c, .slice B p d, .slice C q e]] w (RetV w (.bool v)) := by
 have HV := Lib.hid hv
 have HL := Lib.hid h.1
 have HPS := Lib.hid hps
 have hnc := h.2.1
 have H := Lib.hid h
 have HTab := Lib.hid htab
 clear htab
 clear h hv hps
 go_enter Tryz.func82, Tryz.ntmps82
 go_wp2_with fail
 go_loopw [10] (fun iv wr => ∃ i : Nat, iv = .int .i64 (i : Nat) ∧ i ≤ n ∧ Hid (longL (l.take i) = false) ∧ Blk wr w.heap.size 36 #[strV nm, .slice A n c, .slice B p d, .slice C q e] ∧ Below w.heap.size w wr) (fun iv _ => n - (intOf iv).toNat)
 case atStart => exact ⟨0, rfl, Nat.zero_le _, Lib.hid rfl, blkAt _ _ _ (by simp), (brefl w).alloc (Nat.le_refl _) _⟩
 case round =>
  obtain ⟨i, rfl, hi, HI, xL, hb⟩ := hrel
  rename World => wa
  have hlL : w.heap.size < wa.heap.size := xL.lt
  have cL := xL.cell 1
  rcases Nat.lt_or_ge i n with hlt | hge
  ·have hi1 : ((i : Int) < (n : Int)) = True := by simp; omega
   obtain ⟨g, o, b, e1, hg, _, hbi, hB⟩ := (H.out.bd hb).at_ hlt
   subst e1
   obtain ⟨A', n', c', c0, c1, hM, hnm⟩ := hB
   have hnc' := hM.2.1
   have hn1 : n' ≤ 1000 := by rw [← hM.1]; exact HPS.out b (List.mem_of_getElem? hbi)
   have HM := Lib.hid hM
   have HBI := Lib.hid hbi
   clear hM hbi
   go_wp2_with fail
   have xb : Blk (wa.alloc (.cells #[strV b.name, .slice A' n' c'] 56)) wa.heap.size 56 #[strV b.name, .slice A' n' c'] := blkAt _ _ _ rfl
   have qb : Below wa.heap.size wa (wa.alloc (.cells #[strV b.name, .slice A' n' c'] 56)) := (brefl wa).alloc (Nat.le_refl _) _
   have xL1 := xL.below qb xL.lt
   have hb1 := hb.trans (qb.mono hb.size)
   clear cL c0 c1
   generalize (wa.alloc (.cells #[strV b.name, .slice A' n' c'] 56)) = wx at xb qb xL1 hb1 ⊢
   have cb := xb.cell 1
   go_wp2_with fail
   clear cb
   go_loopw [17] (fun jv w2 => ∃ j : Nat, jv = .int .i64 (j : Nat) ∧ j ≤ n' ∧ Hid ((b.pts.take j).any longM = false) ∧ Below wx.heap.size wx w2) (fun jv _ => n' - (intOf jv).toNat)
   case atStart => exact ⟨0, rfl, Nat.zero_le _, Lib.hid rfl, brefl wx⟩
   case round =>
    obtain ⟨j, rfl, hj, HJ, hb2⟩ := hrel
    rename World => wb
    have xL2 := xL1.below hb2 xL1.lt
    have hlL2 : w.heap.size < wb.heap.size := xL2.lt
    have cL2 := xL2.cell 1
    have bwb := hb1.trans (hb2.mono hb1.size)
    rcases Nat.lt_or_ge j n' with hjl | hjg
    ·have hj1 : ((j : Int) < (n' : Int)) = True := by simp; omega
     obtain ⟨g', o', m, e1, hg', _, hmj, hM⟩ := ((HM.out.mk_ qb).mk_ hb2).at_ hjl
     subst e1
     have HMJ := Lib.hid hmj
     obtain ⟨d0, ⟨b1, A1, n1, c1, D1, m1, e1, d1, d2, d3, hQ1⟩, ⟨b2, A2, n2, c2, D2, m2, e2, d4, d5, d6, hQ2⟩, hmn⟩ := hM
     have d2 : wb.cell? ⟨g', o' + j * 7 + 2, none⟩ = some (.slice A1 n1 c1) := d2
     have d3 : wb.cell? ⟨g', o' + j * 7 + 3, none⟩ = some (.slice D1 m1 e1) := d3
     have d5 : wb.cell? ⟨g', o' + j * 7 + 5, none⟩ = some (.slice A2 n2 c2) := d5
     have d6 : wb.cell? ⟨g', o' + j * 7 + 6, none⟩ = some (.slice D2 m2 e2) := d6
     obtain ⟨X, hX⟩ : ∃ X, ratText m.x.q = X := ⟨_, rfl⟩
     obtain ⟨Y, hY⟩ : ∃ Y, ratText m.y.q = Y := ⟨_, rfl⟩
     have hsX := size_v X
     have hsY := size_v Y
     have HX := Lib.hid hX
     have HY := Lib.hid hY
     have HQ1 := Lib.hid hQ1
     have HQ2 := Lib.hid hQ2
     have hgb : g < wb.heap.size := by have := hb2.size; have := qb.size; omega
     clear hX hY hQ1 hQ2 hmj
     go_wp2_with fail
     have xp : Blk (wb.alloc (.cells #[strV m.name, .bool b1, .slice A1 n1 c1, .slice D1 m1 e1, .bool b2, .slice A2 n2 c2, .slice D2 m2 e2] 85)) wb.heap.size 85 #[strV m.name, .bool b1, .slice A1 n1 c1, .slice D1 m1 e1, .bool b2, .slice A2 n2 c2, .slice D2 m2 e2] := blkAt _ _ _ rfl
     have qb : Below wb.heap.size wb (wb.alloc (.cells #[strV m.name, .bool b1, .slice A1 n1 c1, .slice D1 m1 e1, .bool b2, .slice A2 n2 c2, .slice D2 m2 e2] 85)) := (brefl wb).alloc (Nat.le_refl _) _
     have HTb := Lib.hid ((HTab.out.belw bwb).belw qb)
     have HQ1b := Lib.hid (HQ1.out.belw qb)
     have HQ2b := Lib.hid (HQ2.out.belw qb)
     have bwc := bwb.trans (qb.mono bwb.size)
     have xL3 := xL2.below qb xL2.lt
     have hb3 := bnext hb2 qb
     have hwb : wb.heap.size < (wb.alloc (.cells #[strV m.name, .bool b1, .slice A1 n1 c1, .slice D1 m1 e1, .bool b2, .slice A2 n2 c2, .slice D2 m2 e2] 85)).heap.size := xp.lt
     clear HQ1 HQ2 d0 d1 d2 d3 d4 d5 d6 cL2
     generalize (wb.alloc (.cells #[strV m.name, .bool b1, .slice A1 n1 c1, .slice D1 m1 e1, .bool b2, .slice A2 n2 c2, .slice D2 m2 e2] 85)) = wc at xp qb HTb HQ1b HQ2b bwc hwb xL3 hb3 ⊢
     (with_reducible refine (p_number _ b1 A1 n1 c1 D1 m1 e1 m.x 40 HQ1b.out (by decide) (by decide) HTb.out X HX.out).mono ?_); rintro e' w3 ⟨rfl, hw3⟩
     have xp3 := xp.below hw3 xp.lt
     have xL3 := xL3.b hw3
     have bw3 := bwc.trans (hw3.mono bwc.size)
     have hb3 := bnext hb3 hw3
     by_cases hx6 : 60 < X.length
     ·have f6 : ((60 : Int) < (X.length : Int)) = True := eq_true (by omega)
      have hm6 : longM m = true := by unfold longM; rw [HX.out, decide_eq_true hx6]; rfl
      have hvt : v = true := by rw [← HV.out]; exact longL_hit HBI.out HMJ.out hm6
      subst hvt
      go_wp2_with fail
      go_ret
      exact ⟨rfl, bw3⟩
     ·have f6 : ((60 : Int) < (X.length : Int)) = False := eq_false (by omega)
      have cp4 := xp3.cell 4
      have cp5 := xp3.cell 5
      have cp6 := xp3.cell 6
      go_wp2_with fail
      (with_reducible refine (p_number _ b2 A2 n2 c2 D2 m2 e2 m.y 40 (HQ2b.out.belw hw3) (by decide) (by decide) (HTb.out.belw hw3) Y HY.out).mono ?_); rintro e' w4 ⟨rfl, hw4⟩
      have xL4 := xL3.below hw4 xL3.lt
      have bw4 := bw3.trans (hw4.mono bw3.size)
      have hb4 := bnext hb3 hw4
      clear cp4 cp5 cp6
      by_cases hy6 : 60 < Y.length
      ·have g6 : ((60 : Int) < (Y.length : Int)) = True := eq_true (by omega)
       have hm6 : longM m = true := by unfold longM; rw [HX.out, HY.out, decide_eq_true hy6, Bool.or_true]
       have hvt : v = true := by rw [← HV.out]; exact longL_hit HBI.out HMJ.out hm6
       subst hvt
       go_wp2_with fail
       go_ret
       exact ⟨rfl, bw4⟩
      ·have g6 : ((60 : Int) < (Y.length : Int)) = False := eq_false (by omega)
       have hm6 : longM m = false := by unfold longM; rw [HX.out, HY.out, decide_eq_false hx6, decide_eq_false hy6]; rfl
       have HJ2 := Lib.hid (any_step HMJ.out HJ.out hm6)
       clear hm6
       go_wp2_with fail
       go_roundw
       case rel => exact ⟨j + 1, by go_num, by omega, HJ2, hb4⟩
       case measure => simp [intOf]; omega
    ·have hj1 : ((j : Int) < (n' : Int)) = False := by simp; omega
     have hjn : b.pts.take j = b.pts := List.take_of_length_le (by rw [HM.out.1]; exact hjg)
     rw [hjn] at HJ
     have HI2 := Lib.hid (longL_step HBI.out HI.out HJ.out)
     clear hjn
     go_wp2_with fail
     go_roundw
     case rel => exact ⟨i + 1, by go_num, by omega, HI2, xL2, bwb⟩
     case measure => simp [intOf]; omega
  ·have hi1 : ((i : Int) < (n : Int)) = False := by simp; omega
   have hin : l.take i = l := List.take_of_length_le (by rw [HL.out]; exact hge)
   rw [hin] at HI
   have hvf : v = false := by rw [← HV.out]; exact HI.out
   subst hvf
   clear hin
   go_wp2_with fail
   go_ret
   exact ⟨rfl, hb⟩
end Go.Proofs.YtoiijifnfdgfpaaGreatDoor

/- Walks: linkages: what is wrong with one: the bodies (program). -/
namespace Go.Proofs.YtoiijifnfdgfpaaGreatDoor
open Go Go.RowKit Bn
attribute [local go_sem ↓] Go.wp_at_zero Go.wp_at_succ
theorem m_in_q (w : World) (i : Int) (n : Nat) (v : Bool) (hv : inI i n = v) : Calls Tryz.prog 104 #[.int .i64 i, .int .i64 (n : Nat)] w (fun e w' => e = .returned (.bool v) ∧ w' = w) := by
 subst hv
 by_cases h1 : 0 ≤ i
 ·by_cases h2 : i < (n : Int)
  ·have e : inI i n = true := by unfold inI; simp [h1, h2]
   rw [e]
   have f1 : (0 ≤ i) = True := eq_true h1
   have f2 : (i < (n : Int)) = True := eq_true h2
   go_enter Tryz.func104, Tryz.ntmps104
   go_wp2_with fail
   go_ret
   exact ⟨rfl, rfl⟩
  ·have e : inI i n = false := by unfold inI; simp [h2]
   rw [e]
   have f1 : (0 ≤ i) = True := eq_true h1
   have f2 : (i < (n : Int)) = False := eq_false h2
   go_enter Tryz.func104, Tryz.ntmps104
   go_wp2_with fail
   go_ret
   exact ⟨rfl, rfl⟩
 ·have e : inI i n = false := by unfold inI; simp [h1]
  rw [e]
  have f1 : (0 ≤ i) = False := eq_false h1
  go_enter Tryz.func104, Tryz.ntmps104
  go_wp2_with fail
  go_ret
  exact ⟨rfl, rfl⟩
theorem m_in (w : World) (i : Int) (n : Nat) (v : Bool) (hv : inI i n = v) : Calls Tryz.prog 104 #[.int .i64 i, .int .i64 (n : Nat)] w (RetV w (.bool v)) := (m_in_q w i n v hv).mono fun _ _ ⟨h1, h2⟩ => ⟨h1, h2 ▸ brefl _⟩
theorem m_bodies (w : World) (A : Option Addr) (n c : Nat) (l : List BodyL) (k : Nat) (h : SlS (BdAt k) 2 w A n c l) (hk : k ≤ 300000000) (hn : n ≤ 1000) (x : Int) (hx : errs bodyErr [] l = x) : Calls Tryz.prog 59 #[.slice A n c] w (RetV w (errV x)) := by
 have hnc := h.2.1
 have HX := Lib.hid (errs_start hx)
 clear hx
 go_enter Tryz.func59, Tryz.ntmps59
 go_wp2_with fail
 go_loopw [13] (fun iv wr => ∃ i : Nat, iv = .int .i64 (i : Nat) ∧ i ≤ n ∧ Hid (errs bodyErr (l.take i) (l.drop i) = x) ∧ Below w.heap.size w wr) (fun iv _ => n - (intOf iv).toNat)
 case atStart => exact ⟨0, rfl, Nat.zero_le _, HX, brefl w⟩
 case round =>
  clear HX
  obtain ⟨i, rfl, hi, HX, hb⟩ := hrel
  rename World => wa
  rcases Nat.lt_or_ge i n with hlt | hge
  ·have hi1 : ((i : Int) < (n : Int)) = True := by simp; omega
   obtain ⟨g, o, b, e, hg, _, hbi, hB⟩ := (h.bd hb).at_ hlt
   subst e
   have hstep := errs_step HX.out hbi
   obtain ⟨A', n', c', c0, c1, hM, hnm⟩ := hB
   have HR := Lib.hid (h.bd hb)
   have HM := Lib.hid hM
   have HS := Lib.hid hstep
   have HN := Lib.hid hnm
   have HB := Lib.hid hbi
   obtain ⟨v, hv⟩ : ∃ v, nameOk b.name = v := ⟨_, rfl⟩
   have HV := Lib.hid hv
   clear h hM hstep hnm hbi hv HX
   go_wp2_with fail
   (with_reducible refine (t_name _ b.name HN.out v HV.out).mono ?_); rintro e w1 ⟨rfl, hb1⟩
   have q1 := hb1.q1
   have x1 : Blk w1 wa.heap.size 56 #[strV b.name, .slice A' n' c'] := (blkAt _ _ _ (by simp)).below hb1 (by simp)
   have bw1 := hb.trans (q1.mono hb.size)
   clear hb1
   cases v
   ·have h5 : x = 5 := by
     have e5 : bodyErr (l.take i) b = 5 := if_pos HV.out
     rcases HS.out with ⟨z, _⟩ | ⟨_, z⟩
     ·rw [e5] at z; cases z
     ·rw [← z, e5]
    go_wp2_with fail
    go_ret
    exact ⟨by rw [h5]; rfl, bw1⟩
   ·obtain ⟨cB0, cB1⟩ := x1.c2
    go_wp2_with fail
    clear cB0 cB1
    go_loopw [27] (fun jv w2 => ∃ j : Nat, jv = .int .i64 (j : Nat) ∧ j ≤ i ∧ Hid (twN ((l.take j).map BodyL.name) b.name = false) ∧ Below w1.heap.size w1 w2) (fun jv _ => i - (intOf jv).toNat)
    case atStart => exact ⟨0, rfl, Nat.zero_le _, Lib.hid rfl, brefl w1⟩
    case round =>
     obtain ⟨j, rfl, hj, HT, hb2⟩ := hrel
     rename World => w2
     have x2 := x1.below hb2 x1.lt
     have bw2 := bw1.trans (hb2.mono bw1.size)
     obtain ⟨cB0, cB1⟩ := x2.c2
     have hlw : wa.heap.size < w2.heap.size := x2.lt
     rcases Nat.lt_or_ge j i with hjl | hjg
     ·have hj1 : ((j : Int) < (i : Int)) = True := by simp; omega
      have hjn : j < n := by omega
      obtain ⟨a, ha, hA⟩ := ((HR.out.bd q1).bd hb2).rowAt hjn
      obtain ⟨A2, n2, c2, d0, d1, hM2, hn2⟩ := hA
      have hgw : g < w2.heap.size := by have := hb2.size; have := q1.size; omega
      clear hM2 hn2
      have hne1 : ¬ wa.heap.size = w2.heap.size := by omega
      have hne2 : ¬ g = w2.heap.size := by omega
      have htl := toList_v b.name
      by_cases heq : a.name = b.name
      ·have h6 : x = 6 := by
        have e6 : bodyErr (l.take i) b = 6 := by
         unfold bodyErr
         rw [HV.out, if_neg (by decide), if_pos (twM_hit ha hjl heq)]
        rcases HS.out with ⟨z, _⟩ | ⟨_, z⟩
        ·rw [e6] at z; cases z
        ·rw [← z, e6]
       rw [heq] at d0
       have hee : (b.name == b.name) = true := by simp
       clear heq ha
       go_wp2_with fail
       go_ret
       exact ⟨by rw [h6]; rfl, bw2.alloc bw2.size _⟩
      ·have hta := toList_v a.name
       have HT2 := Lib.hid (twM_step ha HT.out heq)
       have hee : (a.name == b.name) = false := beq_eq_false_iff_ne.2 heq
       clear heq ha HT
       go_wp2_with fail
       go_roundw
       case rel => exact ⟨j + 1, by go_num, by omega, HT2, hb2.alloc hb2.size _⟩
       case measure => simp [intOf]; omega
     ·have hj1 : ((j : Int) < (i : Int)) = False := by simp; omega
      obtain rfl : j = i := by omega
      clear cB0 cB1 c0 c1
      have hlen' : b.pts.length = n' := HM.out.1
      by_cases h8 : 8 < n'
      ·have f8 : ((8 : Int) < (n' : Int)) = True := eq_true (by omega)
       have h4 : x = 4 := by
        have e4 : bodyErr (l.take j) b = 4 := by
         unfold bodyErr
         rw [HV.out, if_neg (by decide), HT.out, if_neg (by decide), if_pos (by rw [hlen']; exact h8)]
        rcases HS.out with ⟨z, _⟩ | ⟨_, z⟩
        ·rw [e4] at z; cases z
        ·rw [← z, e4]
       obtain ⟨cB0, cB1⟩ := x2.c2
       clear hlen'
       go_wp2_with fail
       go_ret
       exact ⟨by rw [h4]; rfl, bw2⟩
      ·have f8 : ((8 : Int) < (n' : Int)) = False := eq_false (by omega)
       obtain ⟨y, hy⟩ : ∃ y, errs markErr [] b.pts = y := ⟨_, rfl⟩
       have HE : Hid (bodyErr (l.take j) b = y) := Lib.hid (by
        unfold bodyErr
        rw [HV.out, if_neg (by decide), HT.out, if_neg (by decide), if_neg (by rw [hlen']; exact h8)]
        exact hy)
       have HP := Lib.hid (errs_start hy)
       have HM2 := Lib.hid ((HM.out.mk_ q1).mk_ hb2)
       obtain ⟨cB0, cB1⟩ := x2.c2
       clear hy hlen' HV HT HM
       go_wp2_with fail
       clear cB0 cB1
       go_loopw [46] (fun pv wr => ∃ p : Nat, pv = .int .i64 (p : Nat) ∧ p ≤ n' ∧ Hid (errs markErr (b.pts.take p) (b.pts.drop p) = y) ∧ Below w2.heap.size w2 wr) (fun pv _ => n' - (intOf pv).toNat)
       case atStart => exact ⟨0, rfl, Nat.zero_le _, HP, brefl w2⟩
       case round =>
        clear HP
        obtain ⟨p, rfl, hp, HP, hb3⟩ := hrel
        rename World => w3
        have x3 := x2.below hb3 x2.lt
        have bw3 := bw2.trans (hb3.mono bw2.size)
        have hlw3 : wa.heap.size < w3.heap.size := x3.lt
        rcases Nat.lt_or_ge p n' with hpl | hpg
        ·have hp1 : ((p : Int) < (n' : Int)) = True := by simp; omega
         obtain ⟨g', o', m, e, hg', _, hmp, hMk⟩ := (HM2.out.mk_ hb3).at_ hpl
         subst e
         have hst := errs_step HP.out hmp
         obtain ⟨d0, ⟨b1, A1, n1, c1, D1, m1, e1, d1, d2, d3, hQ1⟩, ⟨b2, A2, n2, c2, D2, m2, e2, d4, d5, d6, hQ2⟩, hmn⟩ := hMk
         have d2 : w3.cell? ⟨g', o' + p * 7 + 2, none⟩ = some (.slice A1 n1 c1) := d2
         have d3 : w3.cell? ⟨g', o' + p * 7 + 3, none⟩ = some (.slice D1 m1 e1) := d3
         have d5 : w3.cell? ⟨g', o' + p * 7 + 5, none⟩ = some (.slice A2 n2 c2) := d5
         have d6 : w3.cell? ⟨g', o' + p * 7 + 6, none⟩ = some (.slice D2 m2 e2) := d6
         obtain ⟨cC0, cC1⟩ := x3.c2
         have HST := Lib.hid hst
         have HQ1 := Lib.hid hQ1
         have HQ2 := Lib.hid hQ2
         have HMN := Lib.hid hmn
         have HMP := Lib.hid hmp
         have HM3 := Lib.hid (HM2.out.mk_ hb3)
         obtain ⟨v, hv⟩ : ∃ v, nameOk m.name = v := ⟨_, rfl⟩
         have HV := Lib.hid hv
         clear hst hQ1 hQ2 hmn hmp hv HM2 HP
         go_wp2_with fail
         (with_reducible refine (t_name _ m.name HMN.out v HV.out).mono ?_); rintro e w4 ⟨rfl, hb4⟩
         have q4 := hb4.q1
         have x4 : Blk w4 w3.heap.size 85 #[strV m.name, .bool b1, .slice A1 n1 c1, .slice D1 m1 e1, .bool b2, .slice A2 n2 c2, .slice D2 m2 e2] := (blkAt _ _ _ (by simp)).below hb4 (by simp)
         have x3b := x3.below q4 x3.lt
         have bw4 := bw3.trans (q4.mono bw3.size)
         clear hb4 d0 d1 d2 d3 d4 d5 d6 cC0 cC1
         have hxy : ∀ z : Int, z ≠ 0 → markErr (b.pts.take p) m = z → x = z := fun z hz hm => by
          have hy : y = z := by
           rcases HST.out with ⟨u, _⟩ | ⟨_, u⟩
           ·exact absurd (hm.symm.trans u) hz
           ·exact u.symm.trans hm
          rcases HS.out with ⟨u, _⟩ | ⟨_, u⟩
          ·exact absurd (hy.symm.trans (HE.out.symm.trans u)) hz
          ·rw [← u, HE.out, hy]
         cases v
         ·have h5 : x = 5 := hxy 5 (by decide) (if_pos HV.out)
          clear hxy
          go_wp2_with fail
          go_ret
          exact ⟨by rw [h5]; rfl, bw4⟩
         ·have HXY := Lib.hid hxy
          clear hxy
          obtain ⟨cC0, cC1⟩ := x3b.c2
          go_wp2_with fail
          clear cC0 cC1
          go_loopw [61] (fun jv wr => ∃ r : Nat, jv = .int .i64 (r : Nat) ∧ r ≤ p ∧ Hid (twN ((b.pts.take r).map MarkL.name) m.name = false) ∧ Below w4.heap.size w4 wr) (fun jv _ => p - (intOf jv).toNat)
          case atStart => exact ⟨0, rfl, Nat.zero_le _, Lib.hid rfl, brefl w4⟩
          case round =>
           obtain ⟨r, rfl, hr, HT, hb5⟩ := hrel
           rename World => w5
           have x5 := x4.below hb5 x4.lt
           have bw5 := bw4.trans (hb5.mono bw4.size)
           have cD0 := x5.cell 0
           have hlw5 : w3.heap.size < w5.heap.size := x5.lt
           rcases Nat.lt_or_ge r p with hrl | hrg
           ·have hr1 : ((r : Int) < (p : Int)) = True := by simp; omega
            have hrn : r < n' := by omega
            obtain ⟨a, ha, hA⟩ := ((HM3.out.mk_ q4).mk_ hb5).rowAt hrn
            obtain ⟨d0, ⟨b3, A3, n3, c3, D3, m3, e3, d1, d2, d3, hQ3⟩, ⟨b4, A4, n4, c4, D4, m4, e4, d4, d5, d6, hQ4⟩, hmn3⟩ := hA
            have hgw : g' < w5.heap.size := by have := hb5.size; have := q4.size; omega
            have d2 : w5.cell? ⟨g', o' + r * 7 + 2, none⟩ = some (.slice A3 n3 c3) := d2
            have d3 : w5.cell? ⟨g', o' + r * 7 + 3, none⟩ = some (.slice D3 m3 e3) := d3
            have d5 : w5.cell? ⟨g', o' + r * 7 + 5, none⟩ = some (.slice A4 n4 c4) := d5
            have d6 : w5.cell? ⟨g', o' + r * 7 + 6, none⟩ = some (.slice D4 m4 e4) := d6
            clear hQ3 hQ4 hmn3
            have hne1 : ¬ w3.heap.size = w5.heap.size := by omega
            have hne2 : ¬ g' = w5.heap.size := by omega
            have htl := toList_v m.name
            by_cases heq : a.name = m.name
            ·have h6 : x = 6 := HXY.out 6 (by decide) (by
              unfold markErr
              rw [HV.out, if_neg (by decide), if_pos (twM_hit ha hrl heq)])
             rw [heq] at d0
             have hee : (m.name == m.name) = true := by simp
             clear heq ha
             go_wp2_with fail
             go_ret
             exact ⟨by rw [h6]; rfl, bw5.alloc bw5.size _⟩
            ·have hta := toList_v a.name
             have HT2 := Lib.hid (twM_step ha HT.out heq)
             have hee : (a.name == m.name) = false := beq_eq_false_iff_ne.2 heq
             clear heq ha HT
             go_wp2_with fail
             go_roundw
             case rel => exact ⟨r + 1, by go_num, by omega, HT2, hb5.alloc hb5.size _⟩
             case measure => simp [intOf]; omega
           ·have hr1 : ((r : Int) < (p : Int)) = False := by simp; omega
            obtain rfl : r = p := by omega
            have cD1 := x5.cell 1
            have cD2 := x5.cell 2
            have cD3 := x5.cell 3
            obtain ⟨v1, hv1⟩ : ∃ v, m.x.ok = v := ⟨_, rfl⟩
            obtain ⟨v2, hv2⟩ : ∃ v, m.y.ok = v := ⟨_, rfl⟩
            have HV1 := Lib.hid hv1
            have HV2 := Lib.hid hv2
            clear hv1 hv2
            go_wp2_with fail
            (with_reducible refine (f_valid_e _ b1 A1 n1 c1 D1 m1 e1 m.x k v1 ((HQ1.out.belw q4).belw hb5) hk HV1.out).mono ?_); rintro e w6 ⟨rfl, hb6⟩
            have x6 := x5.below hb6 x5.lt
            have bw6 := bw5.trans (hb6.mono bw5.size)
            clear cD0 cD1 cD2 cD3
            have hE3 : v1 = false ∨ v2 = false → markErr (b.pts.take r) m = 3 := fun hh => by
             unfold markErr
             rw [HV.out, if_neg (by decide), HT.out, if_neg (by decide), HV1.out, HV2.out]
             rcases hh with e | e
             ·rw [e, if_pos rfl]
             ·rw [e]
              cases v1
              ·rfl
              ·rfl
            have HE3 := Lib.hid hE3
            clear hE3
            cases v1
            ·have h3 : x = 3 := HXY.out 3 (by decide) (HE3.out (.inl rfl))
             go_wp2_with fail
             go_ret
             exact ⟨by rw [h3]; rfl, bw6⟩
            ·have cE4 := x6.cell 4
             have cE5 := x6.cell 5
             have cE6 := x6.cell 6
             have hlw6 : w3.heap.size < w6.heap.size := x6.lt
             go_wp2_with fail
             (with_reducible refine (f_valid_e _ b2 A2 n2 c2 D2 m2 e2 m.y k v2 (((HQ2.out.belw q4).belw hb5).belw hb6) hk HV2.out).mono ?_); rintro e w7 ⟨rfl, hb7⟩
             have bw7 := bw6.trans (hb7.mono bw6.size)
             have hb37 : Below w2.heap.size w2 w7 := (((hb3.trans (q4.mono hb3.size)).trans (hb5.mono (Nat.le_trans hb3.size q4.size))).trans (hb6.mono (Nat.le_trans (Nat.le_trans hb3.size q4.size) hb5.size))).trans (hb7.mono (Nat.le_trans (Nat.le_trans (Nat.le_trans hb3.size q4.size) hb5.size) hb6.size))
             clear cE4 cE5 cE6
             cases v2
             ·have h3 : x = 3 := HXY.out 3 (by decide) (HE3.out (.inr rfl))
              go_wp2_with fail
              go_ret
              exact ⟨by rw [h3]; rfl, bw7⟩
             ·have h0 : markErr (b.pts.take r) m = 0 := by
               unfold markErr
               rw [HV.out, if_neg (by decide), HT.out, if_neg (by decide), HV1.out, HV2.out]
               rfl
              have HP2 : Hid (errs markErr (b.pts.take (r + 1)) (b.pts.drop (r + 1)) = y) := Lib.hid (by
               rcases HST.out with ⟨_, u⟩ | ⟨u, _⟩
               ·exact u
               ·exact absurd h0 u)
              clear h0
              go_wp2_with fail
              go_roundw
              case rel => exact ⟨r + 1, by go_num, by omega, HP2, hb37⟩
              case measure => simp [intOf]; omega
        ·have hp1 : ((p : Int) < (n' : Int)) = False := by simp; omega
         have hy0 : y = 0 := errs_end HP.out (by rw [HM2.out.1]; exact hpg)
         have HX2 : Hid (errs bodyErr (l.take (j + 1)) (l.drop (j + 1)) = x) := Lib.hid (by
          rcases HS.out with ⟨_, u⟩ | ⟨u, _⟩
          ·exact u
          ·exact absurd (HE.out.trans hy0) u)
         clear hy0
         go_wp2_with fail
         go_roundw
         case rel => exact ⟨j + 1, by go_num, by omega, HX2, bw3⟩
         case measure => simp [intOf]; omega
  ·have hi1 : ((i : Int) < (n : Int)) = False := by simp; omega
   have hx0 : x = 0 := errs_end HX.out (by rw [h.1]; exact hge)
   go_wp2_with fail
   go_ret
   exact ⟨by rw [hx0]; rfl, hb⟩
end Go.Proofs.YtoiijifnfdgfpaaGreatDoor

/- Walks: linkages: what is wrong with one: a joint (program). -/
namespace Go.Proofs.YtoiijifnfdgfpaaGreatDoor
open Go Go.RowKit Bn
attribute [local go_sem ↓] Go.wp_at_zero Go.wp_at_succ
theorem inI_t {i : Int} {n : Nat} (h : inI i n = true) : ∃ m : Nat, i = (m : Int) ∧ m < n := by
  unfold inI at h
  simp only [Bool.and_eq_true, decide_eq_true_eq] at h
  exact ⟨i.toNat, by omega, by omega⟩
theorem m_joint_7 (w : World) (A : Option Addr) (n c : Nat) (B : Option Addr) (p d : Nat) (C : Option Addr) (q e : Nat) (nm : List UInt8) (j : JointL) (h : j.kind ≠ 0 ∧ j.kind ≠ 1) :
  Calls Tryz.prog 103 #[.agg #[strV nm, .slice A n c, .slice B p d, .slice C q e], .agg #[strV j.name, .int .i64 j.kind, .int .i64 j.a, .int .i64 j.point, .int .i64 j.b, .int .i64 j.on, .int .i64 j.to_]] w (RetV w (errV 7)) := by
 have e0 : (j.kind == 0) = false := beq_eq_false_iff_ne.2 h.1
 have e1 : (j.kind == 1) = false := beq_eq_false_iff_ne.2 h.2
 have e2 : (j.kind != 0) = true := bne_iff_ne.2 h.1
 have e3 : (j.kind != 1) = true := bne_iff_ne.2 h.2
 clear h
 go_enter Tryz.func103, Tryz.ntmps103
 go_wp2_with fail
 go_ret
 exact ⟨rfl, (((brefl w).alloc (Nat.le_refl _) _).alloc (by simp) _)⟩
theorem m_joint_0 (w : World) (A : Option Addr) (n c : Nat) (B : Option Addr) (p d : Nat) (C : Option Addr) (q e : Nat) (nm : List UInt8) (j : JointL) (L : LinkL) (k : Nat) (h : SlS (BdAt k) 2 w A n c L.bodies) (hk : k ≤ 10000000) (hk1 : 0 < k) (hn : n ≤ 1000) (hk0 : j.kind = 0) (x : Int) (hx : jointE L j = x) :
  Calls Tryz.prog 103 #[.agg #[strV nm, .slice A n c, .slice B p d, .slice C q e], .agg #[strV j.name, .int .i64 j.kind, .int .i64 j.a, .int .i64 j.point, .int .i64 j.b, .int .i64 j.on, .int .i64 j.to_]] w (RetV w (errV x)) := by
 have e0 : (j.kind == 0) = true := beq_iff_eq.2 hk0
 have e2 : (j.kind != 0) = false := by rw [hk0]; rfl
 have hln := h.1
 have HX := Lib.hid hx
 have HK := Lib.hid (show ¬ (j.kind ≠ 0 ∧ j.kind ≠ 1) by rw [hk0]; decide)
 have HK0 := Lib.hid hk0
 have H := Lib.hid h
 have HL := Lib.hid hln
 obtain ⟨v1, hv1⟩ : ∃ v, inI j.a n = v := ⟨_, rfl⟩
 obtain ⟨v2, hv2⟩ : ∃ v, inI j.b n = v := ⟨_, rfl⟩
 have HV1 := Lib.hid hv1
 have HV2 := Lib.hid hv2
 clear hx hk0 h hln hv1 hv2
 go_enter Tryz.func103, Tryz.ntmps103
 go_wp2_with fail
 (with_reducible refine (m_in _ j.a n v1 HV1.out).mono ?_); rintro e' w1 ⟨rfl, hb1⟩
 have q1 := hb1.q2
 have x1 : Blk w1 w.heap.size 36 #[strV nm, .slice A n c, .slice B p d, .slice C q e] := ((blkAt _ _ _ (by simp)).alloc _).below hb1 (by simp <;> omega)
 have y1 : Blk w1 (w.heap.size + 1) 60 #[strV j.name, .int .i64 j.kind, .int .i64 j.a, .int .i64 j.point, .int .i64 j.b, .int .i64 j.on, .int .i64 j.to_] := (blkAt _ _ _ (by simp)).below hb1 (by simp)
 clear hb1
 cases v1
 ·have h9 : x = 9 := by rw [← HX.out]; unfold jointE; rw [if_neg HK.out, HL.out, if_pos HV1.out]
  go_wp2_with fail
  go_ret
  exact ⟨by rw [h9]; rfl, q1⟩
 have cx1 := x1.cell 1
 have cy2 := y1.cell 2
 have cy4 := y1.cell 4
 go_wp2_with fail
 (with_reducible refine (m_in _ j.b n v2 HV2.out).mono ?_); rintro e' w2 ⟨rfl, hb2⟩
 have q2 := q1.trans (hb2.mono q1.size)
 have x2 := x1.below hb2 x1.lt
 have y2 := y1.below hb2 y1.lt
 clear cx1 cy2 cy4 hb2 x1 y1
 cases v2
 ·have h9 : x = 9 := by rw [← HX.out]; unfold jointE; rw [if_neg HK.out, HL.out, if_neg (by rw [HV1.out]; decide), if_pos HV2.out]
  go_wp2_with fail
  go_ret
  exact ⟨by rw [h9]; rfl, q2⟩
 obtain ⟨an, han, hal⟩ := inI_t HV1.out
 obtain ⟨bn, hbn, hbl⟩ := inI_t HV2.out
 have HA := Lib.hid han
 have HBN := Lib.hid hbn
 have cx1 := x2.cell 1
 have cy1 := y2.cell 1
 have cy2 := y2.cell 2
 have cy3 := y2.cell 3
 have cy4 := y2.cell 4
 have cy5 := y2.cell 5
 have cy6 := y2.cell 6
 rw [han] at cy2
 rw [hbn] at cy4
 clear han hbn
 by_cases hab : an = bn
 ·have h13 : x = 13 := by
   rw [← HX.out]; unfold jointE
   rw [if_neg HK.out, HL.out, if_neg (by rw [HV1.out]; decide), if_neg (by rw [HV2.out]; decide), if_pos (by rw [HA.out, HBN.out, hab])]
  subst hab
  go_wp2_with fail
  go_ret
  exact ⟨by rw [h13]; rfl, q2⟩
 have eab : ((an : Int) == (bn : Int)) = false := beq_eq_false_iff_ne.2 (by omega)
 obtain ⟨g, o, bb, e1', hg, hnc, hbb, hBb⟩ := (H.out.bd q2).at_ hbl
 subst e1'
 obtain ⟨ab, hab', hAb⟩ := (H.out.bd q2).rowAt hal
 obtain ⟨Ab, nb, cb, k0, k1, hMb, _⟩ := hBb
 obtain ⟨Aa, na, ca, l0, l1, hMa, _⟩ := hAb
 have hpa : ptsAt L j.a = ab.pts := by unfold ptsAt; rw [HA.out]; show (match L.bodies[an]? with | some b => b.pts | none => []) = _; rw [hab']
 have hpb : ptsAt L j.b = bb.pts := by unfold ptsAt; rw [HBN.out]; show (match L.bodies[bn]? with | some b => b.pts | none => []) = _; rw [hbb]
 have hla := hMa.1
 have hlb := hMb.1
 have hbn2 : ((bn : Nat) : Int) < ((n : Nat) : Int) := by omega
 have han2 : ((an : Nat) : Int) < ((n : Nat) : Int) := by omega
 obtain ⟨v3, hv3⟩ : ∃ v, inI j.point na = v := ⟨_, rfl⟩
 obtain ⟨v4, hv4⟩ : ∃ v, inI j.on nb = v := ⟨_, rfl⟩
 have HV3 := Lib.hid hv3
 have HV4 := Lib.hid hv4
 have HMB := Lib.hid hMb
 have HPA := Lib.hid hpa
 have HPB := Lib.hid hpb
 have HLA := Lib.hid hla
 have HLB := Lib.hid hlb
 have HAB := Lib.hid (show ¬ j.a = j.b by rw [HA.out, HBN.out]; omega)
 clear hv3 hv4 hMb hMa hpa hpb hla hlb hbb hab' hab
 go_wp2_with fail
 cases v3
 ·have h9 : x = 9 := by
   rw [← HX.out]; unfold jointE
   rw [if_neg HK.out, HL.out, if_neg (by rw [HV1.out]; decide), if_neg (by rw [HV2.out]; decide), if_neg HAB.out, HPA.out, HLA.out, if_pos HV3.out]
  go_quiet ((go_at_call 104; exact Calls.quiet_of_same (m_in_q _ j.point na false HV3.out)))
  go_wp2_with fail
  go_ret
  exact ⟨by rw [h9]; rfl, below_drewN q2 _⟩
 cases v4
 ·have h9 : x = 9 := by
   rw [← HX.out]; unfold jointE
   rw [if_neg HK.out, HL.out, if_neg (by rw [HV1.out]; decide), if_neg (by rw [HV2.out]; decide), if_neg HAB.out, HPA.out, HLA.out, if_neg (by rw [HV3.out]; decide), HPB.out, HLB.out, if_pos HV4.out]
  go_quiet ((go_at_call 104; first | with_reducible exact Calls.quiet_of_same (m_in_q _ j.point na true HV3.out) | with_reducible exact Calls.quiet_of_same (m_in_q _ j.on nb false HV4.out) | fail))
  go_wp2_with fail
  go_ret
  exact ⟨by rw [h9]; rfl, below_drewN q2 _⟩
 have hX2 : x = (if j.kind = 0 then (if j.to_ = 0 then 0 else 2) else if inI j.to_ nb = false then 9 else if placeEq bb.pts j.on j.to_ = true then 8 else 0) := by
  rw [← HX.out]; unfold jointE
  rw [if_neg HK.out, HL.out, if_neg (by rw [HV1.out]; decide), if_neg (by rw [HV2.out]; decide), if_neg HAB.out, HPA.out, HLA.out, if_neg (by rw [HV3.out]; decide), HPB.out, HLB.out, if_neg (by rw [HV4.out]; decide)]
 have HX2 := Lib.hid hX2
 clear hX2
 by_cases hto : j.to_ = 0
 ·have hx : x = 0 := by rw [HX2.out, if_pos HK0.out, if_pos hto]
  have t0 : (j.to_ == 0) = true := beq_iff_eq.2 hto
  have t1 : (j.to_ != 0) = false := by rw [hto]; rfl
  clear hto
  go_quiet ((go_at_call 104; first | with_reducible exact Calls.quiet_of_same (m_in_q _ j.point na true HV3.out) | with_reducible exact Calls.quiet_of_same (m_in_q _ j.on nb true HV4.out) | fail))
  go_wp2_with fail
  go_ret
  exact ⟨by rw [hx]; rfl, below_drewN q2 _⟩
 ·have hx : x = 2 := by rw [HX2.out, if_pos HK0.out, if_neg hto]
  have t0 : (j.to_ == 0) = false := beq_eq_false_iff_ne.2 hto
  have t1 : (j.to_ != 0) = true := bne_iff_ne.2 hto
  clear hto
  go_quiet ((go_at_call 104; first | with_reducible exact Calls.quiet_of_same (m_in_q _ j.point na true HV3.out) | with_reducible exact Calls.quiet_of_same (m_in_q _ j.on nb true HV4.out) | fail))
  go_wp2_with fail
  go_ret
  exact ⟨by rw [hx]; rfl, below_drewN q2 _⟩
theorem m_joint_1 (w : World) (A : Option Addr) (n c : Nat) (B : Option Addr) (p d : Nat) (C : Option Addr) (q e : Nat) (nm : List UInt8) (j : JointL) (L : LinkL) (k : Nat) (h : SlS (BdAt k) 2 w A n c L.bodies) (hk : k ≤ 10000000) (hk1 : 0 < k) (hn : n ≤ 1000) (hk0 : j.kind = 1) (x : Int) (hx : jointE L j = x) :
  Calls Tryz.prog 103 #[.agg #[strV nm, .slice A n c, .slice B p d, .slice C q e], .agg #[strV j.name, .int .i64 j.kind, .int .i64 j.a, .int .i64 j.point, .int .i64 j.b, .int .i64 j.on, .int .i64 j.to_]] w (RetV w (errV x)) := by
 have e0 : (j.kind == 0) = false := beq_eq_false_iff_ne.2 (by rw [hk0]; decide)
 have e2 : (j.kind != 0) = true := by rw [hk0]; rfl
 have e1 : (j.kind == 1) = true := beq_iff_eq.2 hk0
 have e3 : (j.kind != 1) = false := by rw [hk0]; rfl
 have hln := h.1
 have HX := Lib.hid hx
 have HK := Lib.hid (show ¬ (j.kind ≠ 0 ∧ j.kind ≠ 1) by rw [hk0]; decide)
 have HK0 := Lib.hid hk0
 have H := Lib.hid h
 have HL := Lib.hid hln
 obtain ⟨v1, hv1⟩ : ∃ v, inI j.a n = v := ⟨_, rfl⟩
 obtain ⟨v2, hv2⟩ : ∃ v, inI j.b n = v := ⟨_, rfl⟩
 have HV1 := Lib.hid hv1
 have HV2 := Lib.hid hv2
 clear hx hk0 h hln hv1 hv2
 go_enter Tryz.func103, Tryz.ntmps103
 go_wp2_with fail
 (with_reducible refine (m_in _ j.a n v1 HV1.out).mono ?_); rintro e' w1 ⟨rfl, hb1⟩
 have q1 := hb1.q2
 have x1 : Blk w1 w.heap.size 36 #[strV nm, .slice A n c, .slice B p d, .slice C q e] := ((blkAt _ _ _ (by simp)).alloc _).below hb1 (by simp <;> omega)
 have y1 : Blk w1 (w.heap.size + 1) 60 #[strV j.name, .int .i64 j.kind, .int .i64 j.a, .int .i64 j.point, .int .i64 j.b, .int .i64 j.on, .int .i64 j.to_] := (blkAt _ _ _ (by simp)).below hb1 (by simp)
 clear hb1
 cases v1
 ·have h9 : x = 9 := by rw [← HX.out]; unfold jointE; rw [if_neg HK.out, HL.out, if_pos HV1.out]
  go_wp2_with fail
  go_ret
  exact ⟨by rw [h9]; rfl, q1⟩
 have cx1 := x1.cell 1
 have cy2 := y1.cell 2
 have cy4 := y1.cell 4
 go_wp2_with fail
 (with_reducible refine (m_in _ j.b n v2 HV2.out).mono ?_); rintro e' w2 ⟨rfl, hb2⟩
 have q2 := q1.trans (hb2.mono q1.size)
 have x2 := x1.below hb2 x1.lt
 have y2 := y1.below hb2 y1.lt
 clear cx1 cy2 cy4 hb2 x1 y1
 cases v2
 ·have h9 : x = 9 := by rw [← HX.out]; unfold jointE; rw [if_neg HK.out, HL.out, if_neg (by rw [HV1.out]; decide), if_pos HV2.out]
  go_wp2_with fail
  go_ret
  exact ⟨by rw [h9]; rfl, q2⟩
 obtain ⟨an, han, hal⟩ := inI_t HV1.out
 obtain ⟨bn, hbn, hbl⟩ := inI_t HV2.out
 have HA := Lib.hid han
 have HBN := Lib.hid hbn
 have cx1 := x2.cell 1
 have cy1 := y2.cell 1
 have cy2 := y2.cell 2
 have cy3 := y2.cell 3
 have cy4 := y2.cell 4
 have cy5 := y2.cell 5
 have cy6 := y2.cell 6
 rw [han] at cy2
 rw [hbn] at cy4
 clear han hbn
 by_cases hab : an = bn
 ·have h13 : x = 13 := by
   rw [← HX.out]; unfold jointE
   rw [if_neg HK.out, HL.out, if_neg (by rw [HV1.out]; decide), if_neg (by rw [HV2.out]; decide), if_pos (by rw [HA.out, HBN.out, hab])]
  subst hab
  go_wp2_with fail
  go_ret
  exact ⟨by rw [h13]; rfl, q2⟩
 have eab : ((an : Int) == (bn : Int)) = false := beq_eq_false_iff_ne.2 (by omega)
 obtain ⟨g, o, bb, e1', hg, hnc, hbb, hBb⟩ := (H.out.bd q2).at_ hbl
 subst e1'
 obtain ⟨ab, hab', hAb⟩ := (H.out.bd q2).rowAt hal
 obtain ⟨Ab, nb, cb, k0, k1, hMb, _⟩ := hBb
 obtain ⟨Aa, na, ca, l0, l1, hMa, _⟩ := hAb
 have hpa : ptsAt L j.a = ab.pts := by unfold ptsAt; rw [HA.out]; show (match L.bodies[an]? with | some b => b.pts | none => []) = _; rw [hab']
 have hpb : ptsAt L j.b = bb.pts := by unfold ptsAt; rw [HBN.out]; show (match L.bodies[bn]? with | some b => b.pts | none => []) = _; rw [hbb]
 have hla := hMa.1
 have hlb := hMb.1
 have hbn2 : ((bn : Nat) : Int) < ((n : Nat) : Int) := by omega
 have han2 : ((an : Nat) : Int) < ((n : Nat) : Int) := by omega
 obtain ⟨v3, hv3⟩ : ∃ v, inI j.point na = v := ⟨_, rfl⟩
 obtain ⟨v4, hv4⟩ : ∃ v, inI j.on nb = v := ⟨_, rfl⟩
 have HV3 := Lib.hid hv3
 have HV4 := Lib.hid hv4
 have HMB := Lib.hid hMb
 have HPA := Lib.hid hpa
 have HPB := Lib.hid hpb
 have HLA := Lib.hid hla
 have HLB := Lib.hid hlb
 have HAB := Lib.hid (show ¬ j.a = j.b by rw [HA.out, HBN.out]; omega)
 clear hv3 hv4 hMb hMa hpa hpb hla hlb hbb hab' hab
 go_wp2_with fail
 cases v3
 ·have h9 : x = 9 := by
   rw [← HX.out]; unfold jointE
   rw [if_neg HK.out, HL.out, if_neg (by rw [HV1.out]; decide), if_neg (by rw [HV2.out]; decide), if_neg HAB.out, HPA.out, HLA.out, if_pos HV3.out]
  go_quiet ((go_at_call 104; exact Calls.quiet_of_same (m_in_q _ j.point na false HV3.out)))
  go_wp2_with fail
  go_ret
  exact ⟨by rw [h9]; rfl, below_drewN q2 _⟩
 cases v4
 ·have h9 : x = 9 := by
   rw [← HX.out]; unfold jointE
   rw [if_neg HK.out, HL.out, if_neg (by rw [HV1.out]; decide), if_neg (by rw [HV2.out]; decide), if_neg HAB.out, HPA.out, HLA.out, if_neg (by rw [HV3.out]; decide), HPB.out, HLB.out, if_pos HV4.out]
  go_quiet ((go_at_call 104; first | with_reducible exact Calls.quiet_of_same (m_in_q _ j.point na true HV3.out) | with_reducible exact Calls.quiet_of_same (m_in_q _ j.on nb false HV4.out) | fail))
  go_wp2_with fail
  go_ret
  exact ⟨by rw [h9]; rfl, below_drewN q2 _⟩
 have hX2 : x = (if j.kind = 0 then (if j.to_ = 0 then 0 else 2) else if inI j.to_ nb = false then 9 else if placeEq bb.pts j.on j.to_ = true then 8 else 0) := by
  rw [← HX.out]; unfold jointE
  rw [if_neg HK.out, HL.out, if_neg (by rw [HV1.out]; decide), if_neg (by rw [HV2.out]; decide), if_neg HAB.out, HPA.out, HLA.out, if_neg (by rw [HV3.out]; decide), HPB.out, HLB.out, if_neg (by rw [HV4.out]; decide)]
 have HX2 := Lib.hid hX2
 clear hX2
 obtain ⟨v5, hv5⟩ : ∃ v, inI j.to_ nb = v := ⟨_, rfl⟩
 have HV5 := Lib.hid hv5
 clear hv5
 go_quiet ((go_at_call 104; first | with_reducible exact Calls.quiet_of_same (m_in_q _ j.point na true HV3.out) | with_reducible exact Calls.quiet_of_same (m_in_q _ j.on nb true HV4.out) | fail))
 go_wp2_with fail
 (with_reducible refine (m_in _ j.to_ nb v5 HV5.out).mono ?_); rintro e' w3 ⟨rfl, hb3⟩
 have q23 : Below w2.heap.size w2 w3 := bnext (below_drewN (brefl _) _) hb3
 have q3 := q2.trans (q23.mono q2.size)
 have x3 := x2.below q23 x2.lt
 have y3 := y2.below q23 y2.lt
 clear cx1 cy1 cy2 cy3 cy4 cy5 cy6 k0 k1 l0 l1 hb3 x2 y2
 cases v5
 ·have hx : x = 9 := by rw [HX2.out, if_neg (by rw [HK0.out]; decide), if_pos HV5.out]
  go_wp2_with fail
  go_ret
  exact ⟨by rw [hx]; rfl, q3⟩
 obtain ⟨on, hon, honl⟩ := inI_t HV4.out
 obtain ⟨tn, htn, htnl⟩ := inI_t HV5.out
 have cy5 := y3.cell 5
 have cy6 := y3.cell 6
 rw [hon] at cy5
 rw [htn] at cy6
 obtain ⟨g', o', m, e2', hg', hnc', hm, hM⟩ := (HMB.out.mk_ q23).at_ honl
 subst e2'
 obtain ⟨m', hm', hM'⟩ := (HMB.out.mk_ q23).rowAt htnl
 obtain ⟨d0, ⟨b1, A1, n1, c1, D1, m1, e1, d1, d2, d3, hQ1⟩, ⟨b2, A2, n2, c2, D2, m2, f2, d4, d5, d6, hQ2⟩, _⟩ := hM
 obtain ⟨z0, ⟨b3, A3, n3, c3, D3, m3, f3, z1, z2, z3, hQ3⟩, ⟨b4, A4, n4, c4, D4, m4, f4, z4, z5, z6, hQ4⟩, _⟩ := hM'
 have d2 : w3.cell? ⟨g', o' + on * 7 + 2, none⟩ = some (.slice A1 n1 c1) := d2
 have d3 : w3.cell? ⟨g', o' + on * 7 + 3, none⟩ = some (.slice D1 m1 e1) := d3
 have d5 : w3.cell? ⟨g', o' + on * 7 + 5, none⟩ = some (.slice A2 n2 c2) := d5
 have d6 : w3.cell? ⟨g', o' + on * 7 + 6, none⟩ = some (.slice D2 m2 f2) := d6
 have z2 : w3.cell? ⟨g', o' + tn * 7 + 2, none⟩ = some (.slice A3 n3 c3) := z2
 have z3 : w3.cell? ⟨g', o' + tn * 7 + 3, none⟩ = some (.slice D3 m3 f3) := z3
 have z5 : w3.cell? ⟨g', o' + tn * 7 + 5, none⟩ = some (.slice A4 n4 c4) := z5
 have z6 : w3.cell? ⟨g', o' + tn * 7 + 6, none⟩ = some (.slice D4 m4 f4) := z6
 have hpe : placeEq bb.pts j.on j.to_ = (decide (m.x.q = m'.x.q) && decide (m.y.q = m'.y.q)) := by
  unfold placeEq
  rw [hon, htn]
  show (match bb.pts[on]?, bb.pts[tn]? with | some p, some q => decide (p.x.q = q.x.q) && decide (p.y.q = q.y.q) | _, _ => false) = _
  rw [hm, hm']
 have HPE := Lib.hid hpe
 have HQ1 := Lib.hid hQ1
 have HQ2 := Lib.hid hQ2
 have HQ3 := Lib.hid hQ3
 have HQ4 := Lib.hid hQ4
 have hon2 : ((on : Nat) : Int) < ((nb : Nat) : Int) := by omega
 have htn2 : ((tn : Nat) : Int) < ((nb : Nat) : Int) := by omega
 obtain ⟨s1, hs1⟩ : ∃ s, rcmp m.x.q m'.x.q = s := ⟨_, rfl⟩
 obtain ⟨s2, hs2⟩ : ∃ s, rcmp m.y.q m'.y.q = s := ⟨_, rfl⟩
 have HS1 := Lib.hid hs1
 have HS2 := Lib.hid hs2
 have hl1 : w.heap.size < w3.heap.size := x3.lt
 have hl2 : w.heap.size + 1 < w3.heap.size := y3.lt
 clear hpe hQ1 hQ2 hQ3 hQ4 hs1 hs2 hm hm' hon htn
 go_wp2_with fail
 have hz : ∀ z : Bool, (decide (m.x.q = m'.x.q) && decide (m.y.q = m'.y.q)) = z → x = if z = true then 8 else 0 := fun z hz => by
  rw [HX2.out, if_neg (by rw [HK0.out]; decide), if_neg (by rw [HV5.out]; decide), HPE.out, hz]
 have HZ := Lib.hid hz
 clear hz
 go_region
 ·go_wp2_with fail
  (with_reducible refine (f_cmp_v _ b1 A1 n1 c1 D1 m1 e1 m.x.q k ?_ b3 A3 n3 c3 D3 m3 f3 m'.x.q k ?_ s1 HS1.out hk1 (by omega) hk1 (by omega)).mono ?_); (exact ((HQ1.out.qz).belw (below_drewN ((((brefl _).alloc (Nat.le_refl _) _).alloc (by simp) _)) 1))); (exact ((HQ3.out.qz).belw (below_drewN ((((brefl _).alloc (Nat.le_refl _) _).alloc (by simp) _)) 1))); rintro e' w4 ⟨rfl, hb4⟩
  have xa := (((blkAt _ _ _ (g := w3.heap.size) (by simp)).alloc _).drew).below hb4 (by simp <;> omega)
  have xb := ((blkAt _ _ _ (g := w3.heap.size + 1) (by simp)).drew).below hb4 (by simp <;> omega)
  have q4 : Below w3.heap.size w3 w4 := (below_drewN ((((brefl w3).alloc (Nat.le_refl _) _).alloc (by simp) _)) 1).trans (hb4.mono (by simp <;> omega))
  have q24 := q3.trans (q4.mono q3.size)
  have hla : w3.heap.size < w4.heap.size := xa.lt
  have hlb : w3.heap.size + 1 < w4.heap.size := xb.lt
  by_cases hs1 : s1 = 0
  ·have es : (s1 == 0) = true := beq_iff_eq.2 hs1
   have hqx : m.x.q = m'.x.q := rcmp_zero.1 (HS1.out.trans hs1)
   have HQX := Lib.hid hqx
   clear hs1 hqx
   have ca4 := xa.cell 4
   have ca5 := xa.cell 5
   have ca6 := xa.cell 6
   have cb4 := xb.cell 4
   have cb5 := xb.cell 5
   have cb6 := xb.cell 6
   go_wp2_with fail
   (with_reducible refine (f_cmp_v _ b2 A2 n2 c2 D2 m2 f2 m.y.q k ?_ b4 A4 n4 c4 D4 m4 f4 m'.y.q k ?_ s2 HS2.out hk1 (by omega) hk1 (by omega)).mono ?_); (exact (HQ2.out.qz).belw q4); (exact (HQ4.out.qz).belw q4); rintro e' w5 ⟨rfl, hb5⟩
   have q5 := q24.trans (hb5.mono q24.size)
   clear ca4 ca5 ca6 cb4 cb5 cb6
   by_cases hs2 : s2 = 0
   ·have es2 : (s2 == 0) = true := beq_iff_eq.2 hs2
    have hqy : m.y.q = m'.y.q := rcmp_zero.1 (HS2.out.trans hs2)
    have h8 : x = 8 := HZ.out true (by rw [decide_eq_true HQX.out, decide_eq_true hqy]; rfl)
    clear hs2 hqy
    go_wp2_with fail
    go_ret
    exact ⟨by rw [h8]; rfl, q5⟩
   ·have es2 : (s2 == 0) = false := beq_eq_false_iff_ne.2 hs2
    have h0 : x = 0 := HZ.out false (by rw [decide_eq_false (fun e => hs2 (HS2.out.symm.trans (rcmp_zero.2 e)))]; simp)
    clear hs2
    go_wp2_with fail
    go_ret
    exact ⟨by rw [h0]; rfl, q5⟩
  ·have es : (s1 == 0) = false := beq_eq_false_iff_ne.2 hs1
   have h0 : x = 0 := HZ.out false (by rw [decide_eq_false (fun e => hs1 (HS1.out.symm.trans (rcmp_zero.2 e)))]; rfl)
   clear hs1
   go_wp2_with fail
   go_ret
   exact ⟨by rw [h0]; rfl, q24⟩
 ·go_wp2_with fail
  (with_reducible refine (f_cmp_v _ b1 A1 n1 c1 D1 m1 e1 m.x.q k ?_ b3 A3 n3 c3 D3 m3 f3 m'.x.q k ?_ s1 HS1.out hk1 (by omega) hk1 (by omega)).mono ?_); (exact ((HQ1.out.qz).belw (below_drewN ((((brefl _).alloc (Nat.le_refl _) _).alloc (by simp) _)) 1))); (exact ((HQ3.out.qz).belw (below_drewN ((((brefl _).alloc (Nat.le_refl _) _).alloc (by simp) _)) 1))); rintro e' w4 ⟨rfl, hb4⟩
  have xa := (((blkAt _ _ _ (g := w3.heap.size) (by simp)).alloc _).drew).below hb4 (by simp <;> omega)
  have xb := ((blkAt _ _ _ (g := w3.heap.size + 1) (by simp)).drew).below hb4 (by simp <;> omega)
  have q4 : Below w3.heap.size w3 w4 := (below_drewN ((((brefl w3).alloc (Nat.le_refl _) _).alloc (by simp) _)) 1).trans (hb4.mono (by simp <;> omega))
  have q24 := q3.trans (q4.mono q3.size)
  have hla : w3.heap.size < w4.heap.size := xa.lt
  have hlb : w3.heap.size + 1 < w4.heap.size := xb.lt
  by_cases hs1 : s1 = 0
  ·have es : (s1 == 0) = true := beq_iff_eq.2 hs1
   have hqx : m.x.q = m'.x.q := rcmp_zero.1 (HS1.out.trans hs1)
   have HQX := Lib.hid hqx
   clear hs1 hqx
   have ca4 := xa.cell 4
   have ca5 := xa.cell 5
   have ca6 := xa.cell 6
   have cb4 := xb.cell 4
   have cb5 := xb.cell 5
   have cb6 := xb.cell 6
   go_wp2_with fail
   (with_reducible refine (f_cmp_v _ b2 A2 n2 c2 D2 m2 f2 m.y.q k ?_ b4 A4 n4 c4 D4 m4 f4 m'.y.q k ?_ s2 HS2.out hk1 (by omega) hk1 (by omega)).mono ?_); (exact (HQ2.out.qz).belw q4); (exact (HQ4.out.qz).belw q4); rintro e' w5 ⟨rfl, hb5⟩
   have q5 := q24.trans (hb5.mono q24.size)
   clear ca4 ca5 ca6 cb4 cb5 cb6
   by_cases hs2 : s2 = 0
   ·have es2 : (s2 == 0) = true := beq_iff_eq.2 hs2
    have hqy : m.y.q = m'.y.q := rcmp_zero.1 (HS2.out.trans hs2)
    have h8 : x = 8 := HZ.out true (by rw [decide_eq_true HQX.out, decide_eq_true hqy]; rfl)
    clear hs2 hqy
    go_wp2_with fail
    go_ret
    exact ⟨by rw [h8]; rfl, q5⟩
   ·have es2 : (s2 == 0) = false := beq_eq_false_iff_ne.2 hs2
    have h0 : x = 0 := HZ.out false (by rw [decide_eq_false (fun e => hs2 (HS2.out.symm.trans (rcmp_zero.2 e)))]; simp)
    clear hs2
    go_wp2_with fail
    go_ret
    exact ⟨by rw [h0]; rfl, q5⟩
  ·have es : (s1 == 0) = false := beq_eq_false_iff_ne.2 hs1
   have h0 : x = 0 := HZ.out false (by rw [decide_eq_false (fun e => hs1 (HS1.out.symm.trans (rcmp_zero.2 e)))]; rfl)
   clear hs1
   go_wp2_with fail
   go_ret
   exact ⟨by rw [h0]; rfl, q24⟩
end Go.Proofs.YtoiijifnfdgfpaaGreatDoor

/- Linkages: plain: what an accepted one has; its text. -/
namespace Go.Proofs.YtoiijifnfdgfpaaGreatDoor
open Go Go.RowKit Bn
attribute [local go_sem ↓] Go.wp_at_zero Go.wp_at_succ
theorem errs_all {α : Type} {f : List α → α → Int} : ∀ (l prev : List α), errs f prev l = 0 → ∀ a ∈ l, ∃ p, f p a = 0
  | [], _, _ => by simp
  | a :: r, prev, h => by
    unfold errs at h
    split at h
    · rename_i h0
      intro x hx
      rcases List.mem_cons.1 hx with rfl | hx
      · exact ⟨_, h0⟩
      · exact errs_all r _ h x hx
    · rename_i h0; exact absurd h h0
theorem nameOk_le {s : List UInt8} (h : nameOk s = true) : s.length ≤ 24 := by
  unfold nameOk at h
  simp at h
  omega
def MarkOk (m : MarkL) : Prop := m.name.length ≤ 24 ∧ m.x.ok = true ∧ m.y.ok = true
theorem markErr_ok {p : List MarkL} {m : MarkL} (h : markErr p m = 0) : MarkOk m := by
  unfold markErr at h
  repeat' split at h
  all_goals first | omega | skip
  rename_i h1 h2 h3 h4
  exact ⟨nameOk_le (by simpa using h1), by simpa using h3, by simpa using h4⟩
def BodyOk (b : BodyL) : Prop := b.name.length ≤ 24 ∧ b.pts.length ≤ 8 ∧ ∀ m ∈ b.pts, MarkOk m
theorem bodyErr_ok {p : List BodyL} {b : BodyL} (h : bodyErr p b = 0) : BodyOk b := by
  unfold bodyErr at h
  split at h
  · omega
  rename_i h1
  split at h
  · omega
  split at h
  · omega
  rename_i h3
  refine ⟨nameOk_le (by simpa using h1), by omega, fun m hm => ?_⟩
  obtain ⟨q, hq⟩ := errs_all _ _ h m hm
  exact markErr_ok hq
def JointOk (bs : List BodyL) (j : JointL) : Prop := j.name.length ≤ 24 ∧ ∃ (a b p o : Nat) (x y : BodyL) (m1 m2 : MarkL), j.a = (a : Nat) ∧ j.b = (b : Nat) ∧ j.point = (p : Nat) ∧ j.on = (o : Nat) ∧ bs[a]? = some x ∧ bs[b]? = some y ∧ x.pts[p]? = some m1 ∧ y.pts[o]? = some m2 ∧
  ((j.kind = 0 ∧ j.to_ = 0) ∨ (j.kind = 1 ∧ ∃ (t : Nat) (m3 : MarkL), j.to_ = (t : Nat) ∧ y.pts[t]? = some m3))
theorem inI_at {α : Type} {l : List α} {i : Int} (h : inI i l.length = true) : ∃ (n : Nat) (a : α), i = (n : Nat) ∧ l[n]? = some a := by
  obtain ⟨n, h1, h2⟩ := inI_t h
  exact ⟨n, l[n], h1, List.getElem?_eq_getElem h2⟩
theorem ptsAt_v {L : LinkL} {i : Int} {n : Nat} {b : BodyL} (h : i = (n : Nat)) (hb : L.bodies[n]? = some b) : ptsAt L i = b.pts := by
  subst h
  unfold ptsAt
  show (match L.bodies[n]? with | some b => b.pts | none => []) = _
  rw [hb]
theorem jointErr_ok {L : LinkL} {p : List JointL} {j : JointL} (h : jointErr L p j = 0) : JointOk L.bodies j := by
  unfold jointErr at h
  split at h
  · omega
  rename_i h1
  split at h
  · omega
  refine ⟨nameOk_le (by simpa using h1), ?_⟩
  unfold jointE at h
  split at h
  · omega
  rename_i hk
  split at h
  · omega
  rename_i ha
  split at h
  · omega
  rename_i hb
  split at h
  · omega
  split at h
  · omega
  rename_i hp
  split at h
  · omega
  rename_i ho
  obtain ⟨a, x, ea, hx⟩ := inI_at (by simpa using ha)
  obtain ⟨b, y, eb, hy⟩ := inI_at (by simpa using hb)
  rw [ptsAt_v ea hx] at hp
  rw [ptsAt_v eb hy] at ho
  obtain ⟨pn, m1, ep, hm1⟩ := inI_at (by simpa using hp)
  obtain ⟨on, m2, eo, hm2⟩ := inI_at (by simpa using ho)
  refine ⟨a, b, pn, on, x, y, m1, m2, ea, eb, ep, eo, hx, hy, hm1, hm2, ?_⟩
  split at h
  · rename_i h0
    split at h
    · rename_i ht; exact Or.inl ⟨h0, ht⟩
    · omega
  · rename_i h0
    split at h
    · omega
    rename_i ht
    rw [ptsAt_v eb hy] at ht
    obtain ⟨t, m3, et, hm3⟩ := inI_at (by simpa using ht)
    exact Or.inr ⟨by omega, t, m3, et, hm3⟩
def DriverOk (bs : List BodyL) (d : DriverL) : Prop := d.name.length ≤ 24 ∧ ∃ (i : Nat) (b : BodyL), d.body = (i : Nat) ∧ bs[i]? = some b
theorem driverErr_ok {bs : List BodyL} {p : List DriverL} {d : DriverL} (h : driverErr bs.length p d = 0) : DriverOk bs d := by
  unfold driverErr at h
  split at h
  · omega
  rename_i h1
  split at h
  · omega
  split at h
  · omega
  rename_i hb
  obtain ⟨i, b, e, hi⟩ := inI_at (by simpa using hb)
  exact ⟨nameOk_le (by simpa using h1), i, b, e, hi⟩
structure LkOk (L : LinkL) : Prop where
  name : L.name.length ≤ 24
  nb : L.bodies.length ≤ 8
  nj : L.joints.length ≤ 16
  nd : L.drivers.length ≤ 2
  b0 : 0 < L.bodies.length
  body : ∀ b ∈ L.bodies, BodyOk b
  joint : ∀ j ∈ L.joints, JointOk L.bodies j
  driver : ∀ d ∈ L.drivers, DriverOk L.bodies d
theorem lkErr_ok {L : LinkL} (h : lkErr L = 0) : LkOk L := by
  unfold lkErr at h
  split at h
  · omega
  rename_i h1
  split at h
  · omega
  rename_i h2
  split at h
  · omega
  rename_i h3
  split at h
  · rename_i h4; exact absurd h h4
  rename_i h4
  split at h
  · omega
  rename_i h5
  split at h
  · rename_i h6; exact absurd h h6
  rename_i h6
  split at h
  · omega
  rename_i h7
  refine ⟨nameOk_le (by simpa using h1), by omega, by omega, by omega, by omega, fun b hb => ?_, fun j hj => ?_, fun d hd => ?_⟩
  · obtain ⟨q, hq⟩ := errs_all _ _ (by simpa using h4) b hb
    exact bodyErr_ok hq
  · obtain ⟨q, hq⟩ := errs_all _ _ (by simpa using h6) j hj
    exact jointErr_ok hq
  · obtain ⟨q, hq⟩ := errs_all _ _ h d hd
    exact driverErr_ok hq
def fullT (bs : List BodyL) (i j : Int) : List UInt8 := match bs[i.toNat]? with
  | some b => (match b.pts[j.toNat]? with | some m => b.name ++ 46 :: m.name | none => [])
  | none => []
theorem fullT_v {bs : List BodyL} {i j : Nat} {b : BodyL} {m : MarkL} (hb : bs[i]? = some b) (hm : b.pts[j]? = some m) : fullT bs (i : Nat) (j : Nat) = b.name ++ 46 :: m.name := by
  unfold fullT
  show (match bs[i]? with | some b => (match b.pts[j]? with | some m => b.name ++ 46 :: m.name | none => []) | none => []) = _
  rw [hb]
  show (match b.pts[j]? with | some m => b.name ++ 46 :: m.name | none => []) = _
  rw [hm]
def nameT (bs : List BodyL) (i : Int) : List UInt8 := match bs[i.toNat]? with | some b => b.name | none => []
theorem nameT_v {bs : List BodyL} {i : Nat} {b : BodyL} (hb : bs[i]? = some b) : nameT bs (i : Nat) = b.name := by
  unfold nameT
  show (match bs[i]? with | some b => b.name | none => []) = _
  rw [hb]
def jointWords (bs : List BodyL) (j : JointL) : List (List UInt8) :=
  if j.kind = 1 then [[115, 108, 105, 100, 101], j.name, fullT bs j.a j.point, fullT bs j.b j.on, fullT bs j.b j.to_]
  else [[112, 105, 110], j.name, fullT bs j.a j.point, fullT bs j.b j.on]
def jointText (bs : List BodyL) (j : JointL) : List UInt8 := joinT (jointWords bs j) ++ [59, 10]
def driverText (bs : List BodyL) (d : DriverL) : List UInt8 := [100, 114, 105, 118, 101, 114, 32] ++ d.name ++ [32] ++ nameT bs d.body ++ [59, 10]
def headText (nm : List UInt8) : List UInt8 := [108, 105, 110, 107, 97, 103, 101, 32] ++ nm ++ [59, 10]
def lineText (b : BodyL) : List UInt8 := bodyText b ++ [10]
def lkText (L : LinkL) : List UInt8 := headText L.name ++ L.bodies.flatMap lineText ++ L.joints.flatMap (jointText L.bodies) ++ L.drivers.flatMap (driverText L.bodies)
def outErr (L : LinkL) : Int := if lkErr L ≠ 0 then lkErr L else if longL L.bodies = true ∨ 65536 < (lkText L).length then 4 else 0
def outText (L : LinkL) : List UInt8 := if outErr L = 0 then lkText L else []
theorem flat_bound {α : Type} (f : α → List UInt8) (K : Nat) : ∀ (l : List α), (∀ a ∈ l, (f a).length ≤ K) → (l.flatMap f).length ≤ K * l.length
  | [], _ => by simp
  | a :: l, h => by
    have h1 := h a (by simp)
    have h2 := flat_bound f K l fun x hx => h x (by simp [hx])
    simp only [List.flatMap_cons, List.length_append, List.length_cons, Nat.mul_add, Nat.mul_one]
    omega
theorem bodyText_len {b : BodyL} (hb : b.name.length ≤ 24) (hp : b.pts.length ≤ 8) (h : ∀ m ∈ b.pts, MkShort m) : (lineText b).length ≤ 30000 := by
  have := marks_len h
  unfold lineText bodyText
  simp only [List.length_append, List.length_cons, List.length_nil]
  omega
theorem fullT_len {bs : List BodyL} {i j : Int} (h : ∀ b ∈ bs, BodyOk b) : (fullT bs i j).length ≤ 49 := by
  unfold fullT
  split
  · rename_i b hb
    have h1 := h b (List.mem_of_getElem? hb)
    split
    · rename_i m hm
      have h2 := h1.2.2 m (List.mem_of_getElem? hm)
      have := h1.1
      have := h2.1
      simp only [List.length_append, List.length_cons]
      omega
    · simp
  · simp
theorem nameT_len {bs : List BodyL} {i : Int} (h : ∀ b ∈ bs, BodyOk b) : (nameT bs i).length ≤ 24 := by
  unfold nameT
  split
  · rename_i b hb
    exact (h b (List.mem_of_getElem? hb)).1
  · simp
theorem jointText_len {bs : List BodyL} {j : JointL} (h : ∀ b ∈ bs, BodyOk b) (hj : j.name.length ≤ 24) : (jointText bs j).length ≤ 200 := by
  have h1 := fullT_len h (i := j.a) (j := j.point)
  have h2 := fullT_len h (i := j.b) (j := j.on)
  have h3 := fullT_len h (i := j.b) (j := j.to_)
  unfold jointText jointWords
  split
  · simp only [joinT, List.length_append, List.length_cons, List.length_nil]
    omega
  · simp only [joinT, List.length_append, List.length_cons, List.length_nil]
    omega
theorem driverText_len {bs : List BodyL} {d : DriverL} (h : ∀ b ∈ bs, BodyOk b) (hd : d.name.length ≤ 24) : (driverText bs d).length ≤ 60 := by
  have h1 := nameT_len h (i := d.body)
  unfold driverText
  simp only [List.length_append, List.length_cons, List.length_nil]
  omega
end Go.Proofs.YtoiijifnfdgfpaaGreatDoor

/- Linkages: plain: the text of an accepted linkage tells it; its lines. -/
namespace Go.Proofs.YtoiijifnfdgfpaaGreatDoor
open Go Go.RowKit Bn
attribute [local go_sem ↓] Go.wp_at_zero Go.wp_at_succ
theorem errs_at {α : Type} {f : List α → α → Int} : ∀ (l prev : List α), errs f prev l = 0 → ∀ (i : Nat) (a : α), l[i]? = some a → f (prev ++ l.take i) a = 0
  | [], _, _, i, a, ha => by simp at ha
  | x :: r, prev, h, i, a, ha => by
    unfold errs at h
    split at h
    · rename_i h0
      cases i with
      | zero => simp at ha; subst ha; simpa using h0
      | succ i =>
        have h2 := errs_at r _ h i a (by simpa using ha)
        simpa using h2
    · rename_i h0; exact absurd h h0
theorem tw_dist {α : Type} {nm : α → List UInt8} {l : List α} (h : ∀ (i : Nat) (a : α), l[i]? = some a → twN ((l.take i).map nm) (nm a) = false) {i j : Nat} {a b : α} (ha : l[i]? = some a) (hb : l[j]? = some b) (e : nm a = nm b) : i = j := by
  rcases Nat.lt_trichotomy i j with h1 | h1 | h1
  · have := twM_hit ha h1 e
    rw [h j b hb] at this; cases this
  · exact h1
  · have := twM_hit hb h1 e.symm
    rw [h i a ha] at this; cases this
theorem name_all {s : List UInt8} (h : nameOk s = true) : s ≠ [] ∧ ∀ c ∈ s, isPart c = true := by
  unfold nameOk at h
  simp only [Bool.and_eq_true, decide_eq_true_eq] at h
  obtain ⟨⟨h1, h2⟩, _⟩ := h
  cases s with
  | nil => simp [wordN] at h1
  | cons x t =>
    refine ⟨by simp, ?_⟩
    rw [wordN] at h1 h2
    split at h1
    · rename_i hx
      rw [if_pos hx, List.length_cons] at h2
      have h3 : t.takeWhile isPart = t := by
        have h4 : t.takeWhile isPart <+: t := List.takeWhile_prefix _
        exact h4.eq_of_length (by omega)
      intro c hc
      rcases List.mem_cons.1 hc with rfl | hc
      · unfold isPart; rw [hx]; rfl
      · rw [← h3] at hc
        exact (List.all_eq_true.1 (List.all_takeWhile)) c hc
    · omega
theorem itoa_mem {z : Int} {c : UInt8} (h : c ∈ Lib.itoa z) : isDg c = true ∨ c = 45 := okZ_mem (itoa_ok z).1 h
theorem rat_mem {q : Rat} {c : UInt8} (h : c ∈ ratText q) : isDg c = true ∨ c = 45 ∨ c = 47 := by
  unfold ratText at h
  split at h
  · rcases itoa_mem h with h | h
    · exact .inl h
    · exact .inr (.inl h)
  · rcases List.mem_append.1 h with h | h
    · rcases itoa_mem h with h | h
      · exact .inl h
      · exact .inr (.inl h)
    · rcases List.mem_cons.1 h with h | h
      · exact .inr (.inr h)
      · rcases itoa_mem h with h | h
        · exact .inl h
        · exact .inr (.inl h)
def RdW (r : RD) : Prop := Wds r.num ∧ Wds r.den
def MkW (m : MarkL) : Prop := RdW m.x ∧ RdW m.y
def LkW (L : LinkL) : Prop := ∀ b ∈ L.bodies, ∀ m ∈ b.pts, MkW m
structure MkF (m : MarkL) : Prop where
  name : nameOk m.name = true
  x : m.x.ok = true
  y : m.y.ok = true
theorem markErr_full {p : List MarkL} {m : MarkL} (h : markErr p m = 0) : MkF m ∧ twN (p.map MarkL.name) m.name = false := by
  unfold markErr at h
  repeat' split at h
  all_goals first | omega | skip
  rename_i h1 h2 h3 h4
  exact ⟨⟨by simpa using h1, by simpa using h3, by simpa using h4⟩, by simpa using h2⟩
structure BdF (b : BodyL) : Prop where
  name : nameOk b.name = true
  pts : ∀ m ∈ b.pts, MkF m
  dist : ∀ {i j : Nat} {m m' : MarkL}, b.pts[i]? = some m → b.pts[j]? = some m' → m.name = m'.name → i = j
theorem bodyErr_full {p : List BodyL} {b : BodyL} (h : bodyErr p b = 0) : BdF b ∧ twN (p.map BodyL.name) b.name = false := by
  unfold bodyErr at h
  split at h
  · omega
  rename_i h1
  split at h
  · omega
  rename_i h2
  split at h
  · omega
  have hm : ∀ (i : Nat) (a : MarkL), b.pts[i]? = some a → MkF a ∧ twN ((b.pts.take i).map MarkL.name) a.name = false := fun i a ha => markErr_full (by simpa using errs_at _ _ h i a ha)
  refine ⟨⟨by simpa using h1, fun m hm' => ?_, fun {i j m m'} => tw_dist fun i a ha => (hm i a ha).2⟩, by simpa using h2⟩
  obtain ⟨i, hi, e⟩ := List.getElem_of_mem hm'
  exact (hm i m (by rw [List.getElem?_eq_getElem hi, e])).1
structure LkF (L : LinkL) : Prop where
  ok : LkOk L
  name : nameOk L.name = true
  body : ∀ b ∈ L.bodies, BdF b
  dist : ∀ {i j : Nat} {a b : BodyL}, L.bodies[i]? = some a → L.bodies[j]? = some b → a.name = b.name → i = j
  joint : ∀ j ∈ L.joints, nameOk j.name = true
  driver : ∀ d ∈ L.drivers, nameOk d.name = true
theorem lkErr_full {L : LinkL} (h : lkErr L = 0) : LkF L := by
  have hok := lkErr_ok h
  unfold lkErr at h
  split at h
  · omega
  rename_i h1
  split at h
  · omega
  split at h
  · omega
  split at h
  · rename_i h4; exact absurd h h4
  rename_i h4
  split at h
  · omega
  split at h
  · rename_i h6; exact absurd h h6
  rename_i h6
  split at h
  · omega
  have hb : ∀ (i : Nat) (a : BodyL), L.bodies[i]? = some a → BdF a ∧ twN ((L.bodies.take i).map BodyL.name) a.name = false := fun i a ha => bodyErr_full (by have := errs_at _ _ (Decidable.not_not.1 h4) i a ha; rwa [List.nil_append] at this)
  refine ⟨hok, by simpa using h1, fun b hb' => ?_, fun {i j a b} => tw_dist fun i a ha => (hb i a ha).2, fun j hj => ?_, fun d hd => ?_⟩
  · obtain ⟨i, hi, e⟩ := List.getElem_of_mem hb'
    exact (hb i b (by rw [List.getElem?_eq_getElem hi, e])).1
  · obtain ⟨q, hq⟩ := errs_all _ _ (by simpa using h6) j hj
    unfold jointErr at hq
    split at hq
    · omega
    rename_i h9
    simpa using h9
  · obtain ⟨q, hq⟩ := errs_all _ _ h d hd
    unfold driverErr at hq
    split at hq
    · omega
    rename_i h9
    simpa using h9
/-! Lines. -/
end Go.Proofs.YtoiijifnfdgfpaaGreatDoor

/- Walks: fraction.Parse. -/
namespace Go.Proofs.YtoiijifnfdgfpaaGreatDoor
open Go Go.RowKit Bn
attribute [local go_sem ↓] Go.wp_at_zero Go.wp_at_succ
def Mx (w : World) : Prop := ∃ m, w.cell? ⟨0, 0, none⟩ = some (.int .i64 m)
theorem Mx.belw {w w' : World} (h : Mx w) (hb : Below w.heap.size w w') : Mx w' := by
  obtain ⟨m, hm⟩ := h
  exact ⟨m, (hb.cell (p := ⟨0, 0, none⟩) (World.block_lt_of_cell? w _ hm)).trans hm⟩
theorem cut_v (w : World) (s : List UInt8) (c : UInt8) (a b : List UInt8) (f : Bool) (hm : Mx w) (hl : s.length ≤ 65536) (hc : Lib.cut s [c] = (a, b, f)) : Calls Tryz.prog 74 #[strV s, .string ⟨#[c]⟩] w (RetV w (.tuple #[strV a, strV b, .bool f])) := by
  obtain ⟨m, hm⟩ := hm
  refine (Tryz.strings_Cut ⟨s.toArray⟩ ⟨#[c]⟩ m w (by show s.length < _; omega) hm).mono fun e w' ⟨he, n, hw⟩ => ⟨?_, hw ▸ below_drewN (brefl _) n⟩
  rw [he]
  show Ending.returned (.tuple #[strV (Lib.cut s [c]).1, strV (Lib.cut s [c]).2.1, .bool (Lib.cut s [c]).2.2]) = _
  rw [hc]
theorem valZ_lt {l : List UInt8} (h : okZ l = true) : (valZ l).natAbs < 4294967296 ^ l.length := by
  obtain ⟨h0, h1, h2⟩ := okZ_parts h
  have h3 := decVal_words h1
  have h4 : 4294967296 ^ (tailS l).length ≤ 4294967296 ^ l.length := Nat.pow_le_pow_right (by omega) (tailS_len l)
  unfold valZ
  split <;> omega
theorem valZ_ltK {l : List UInt8} {K : Nat} (h : okZ l = true) (hl : l.length ≤ K) : (valZ l).natAbs < 4294967296 ^ K := Nat.lt_of_lt_of_le (valZ_lt h) (Nat.pow_le_pow_right (by decide) hl)
theorem valZ_lt2 {l : List UInt8} (h : okZ l = true) (hl : l.length ≤ 65536) : (valZ l).natAbs < 4294967296 ^ 65536 :=
  valZ_ltK (K := 65536) h hl
theorem errV_2 : errV 2 = .iface 63 (.int .i64 2) := if_neg (by decide)
theorem errV_4 : errV 4 = .iface 63 (.int .i64 4) := if_neg (by decide)
theorem i_parse_ok6 (w : World) (l : List UInt8) (hl : l.length ≤ 65536) (hb : okZ l = true) : Calls Tryz.prog 76 #[strV l] w (RetIe w .nilIface (valZ l) 65536) :=
  (i_parse_ok w l hl hb).mono fun _ _ r => r.mono hl
theorem i_parse_one (w : World) (l : List UInt8) : l = [49] → Calls Tryz.prog 76 #[strV l] w (RetIe w .nilIface 1 1) := by
  rintro rfl; exact i_parse_ok w [49] (by decide) (by decide)
theorem f_parse_q6 (w : World) (s F B : List UInt8) (hmx : Mx w) (hl : s.length ≤ 65536) (hd : Lib.cut s [46] = (s, [], false)) (hc : Lib.cut s [47] = (F, B, true)) (hF6 : F.length ≤ 65536) (hB6 : B.length ≤ 65536) (h1 : okZ F = true) (h2 : okZ B = true) (h3 : (valZ B).sign = 1) (h4 : cmpI (valZ B) 1 = 1) (h5 : cmpI ((Nat.gcd (valZ F).natAbs (valZ B).natAbs : Nat) : Int) 1 = 0) :
    Calls Tryz.prog 34 #[strV s] w (RetFe w .nilIface (Rat.divInt (valZ F) (valZ B)) 65536) := by
  have HNE := Lib.hid (show valZ B ≠ 0 by intro e; rw [e] at h3; cases h3)
  have HS := Lib.hid (Sz_divInt (valZ_lt2 h1 hF6) (valZ_lt2 h2 hB6) (by decide))
  have hszs := size_v s
  have hlen : ((65536 : Int) < (s.length : Int)) = False := by simp; omega
  have HC := Lib.hid hc
  have HD := Lib.hid hd
  clear hc hd
  have H1 := Lib.hid h1
  clear h1
  have H2 := Lib.hid h2
  clear h2
  have H3 := Lib.hid h3
  clear h3
  have H4 := Lib.hid h4
  clear h4
  have H5 := Lib.hid h5
  clear h5
  go_enter Tryz.func34, Tryz.ntmps34
  go_wp2_with fail
  (with_reducible refine (cut_v _ (s) 46 (s) ([]) false (hmx.belw ((brefl w).alloc (by first | omega | (simp <;> omega)) (.cells #[.bool false, .slice none 0 0, .slice none 0 0] 72))) (by omega) HD.out).mono ?_); rintro e w1 ⟨rfl, hb1⟩
  have q1 := hb1.q1
  have x1a : Blk w1 w.heap.size 72 #[.bool false, .slice none 0 0, .slice none 0 0] := (blkAt _ _ _ (by simp)).below hb1 (by simp)
  have bw1 := (brefl w).trans (q1.mono (brefl w).size)
  have lw1 := hb1.l1
  clear q1
  go_wp2_with fail
  (with_reducible refine (cut_v _ (s) 47 (F) (B) true (hmx.belw bw1) (by omega) HC.out).mono ?_); rintro e w2 ⟨rfl, q2⟩
  replace x1a := x1a.b q2
  have bw2 := bw1.trans (q2.mono bw1.size)
  have lw2 := q2.size
  clear q2 bw1
  go_wp2_with fail
  (with_reducible refine (i_parse_ok6 _ (F) (by omega) H1.out).mono ?_); rintro e w3 ⟨b3, A3, n3, c3, rfl, h3, q3⟩
  replace x1a := x1a.b q3
  have bw3 := bw2.trans (q3.mono bw2.size)
  have lw3 := q3.size
  clear q3 bw2
  go_wp2_with fail
  (with_reducible refine (i_parse_ok6 _ (B) (by omega) H2.out).mono ?_); rintro e w4 ⟨b4, A4, n4, c4, rfl, h4, hb4⟩
  have q4 := hb4.q1
  replace h3 := h3.belw q4
  replace x1a := x1a.b q4
  have x4a : Blk w4 w3.heap.size 123 #[.bool b3, .slice A3 n3 c3] := (blkAt _ _ _ (by simp)).below hb4 (by simp)
  have bw4 := bw3.trans (q4.mono bw3.size)
  have lw4 := hb4.l1
  clear q4 bw3
  go_wp2_with fail
  (with_reducible refine (i_sign_e _ b4 A4 n4 c4 (valZ B) (65536) ?_ (1) ?_ ?_).mono ?_); (exact (h4.belw ((Below.refl _ _).alloc (Nat.le_refl _) _)).iz); (exact H3.out); (omega); rintro e w5 ⟨rfl, hb5⟩
  have q5 := hb5.q1
  replace h3 := h3.belw q5
  replace h4 := h4.belw q5
  replace x1a := x1a.b q5
  replace x4a := x4a.b q5
  have x5a : Blk w5 w4.heap.size 123 #[.bool b4, .slice A4 n4 c4] := (blkAt _ _ _ (by simp)).below hb5 (by simp)
  have bw5 := bw4.trans (q5.mono bw4.size)
  have lw5 := hb5.l1
  clear q5 bw4
  have cx4a := x4a.c2
  have lx4a := lts0 x4a.lt
  have cx5a := x5a.c2
  have lx5a := lts0 x5a.lt
  go_wp2_with fail
  refine wp_region_lin (B := w.heap.size) (fr := fun xf => ⟨List.toArray (strV s :: undef :: .pointer (some ⟨w.heap.size, 0, none⟩) :: .nilIface :: strV s :: strV [] :: .bool false :: strV F :: strV B :: .bool true :: .pointer (some ⟨w3.heap.size, 0, none⟩) :: .nilIface :: .pointer (some ⟨w4.heap.size, 0, none⟩) :: .nilIface :: strV s :: .int .i64 (s.length : Nat) :: .bool false :: undef :: undef :: .tuple #[strV s, strV [], .bool false] :: strV s :: .tuple #[strV s, strV [], .bool false] :: strV s :: strV [] :: .bool false :: .bool false :: undef :: undef :: undef :: undef :: undef :: undef :: undef :: undef :: undef :: undef :: .tuple #[strV F, strV B, .bool true] :: strV s :: .tuple #[strV F, strV B, .bool true] :: strV F :: strV B :: .bool true :: .bool true :: .bool false :: .tuple #[.agg #[.bool b3, .slice A3 n3 c3], .nilIface] :: strV F :: .tuple #[.agg #[.bool b3, .slice A3 n3 c3], .nilIface] :: .agg #[.bool b3, .slice A3 n3 c3] :: .nilIface :: .tuple #[.agg #[.bool b4, .slice A4 n4 c4], .nilIface] :: strV B :: .tuple #[.agg #[.bool b4, .slice A4 n4 c4], .nilIface] :: .agg #[.bool b4, .slice A4 n4 c4] :: .nilIface :: .nilIface :: .bool false :: .bool false :: .nilIface :: .bool false :: .bool false :: .bool false :: .agg #[.bool b4, .slice A4 n4 c4] :: .int .i64 1 :: .bool false :: .bool false :: undef :: undef :: xf 0 :: xf 1 :: xf 2 :: xf 3 :: xf 4 :: xf 5 :: xf 6 :: xf 7 :: xf 8 :: xf 9 :: xf 10 :: xf 11 :: xf 12 :: xf 13 :: xf 14 :: undef :: undef :: undef :: undef :: undef :: []), []⟩) (R := fun ri => List.getD ((PEq (.bool true)) :: (PEq (.bool true)) :: (PEq (.agg #[.bool b4, .slice A4 n4 c4])) :: (VI (1) (1)) :: (PEq (.int .i64 (1))) :: (PEq (.bool false)) :: (PEq (.bool false)) :: (PEq (.agg #[.bool b3, .slice A3 n3 c3])) :: (PEq (.agg #[.bool b4, .slice A4 n4 c4])) :: (VI ((Nat.gcd ((valZ F) : Int).natAbs ((valZ B) : Int).natAbs : Nat)) ((65536) + (65536))) :: (VI (1) (1)) :: (PEq (.int .i64 (0))) :: (PEq (.bool false)) :: (PEq (.bool false)) :: (PEq (.bool false)) :: []) ri (fun _ _ => True)) (es := []) (ow := [⟨w.heap.size, 15, 0, 72, #[.bool false, .slice none 0 0, .slice none 0 0], CAny⟩, ⟨w3.heap.size, 15, 0, 123, #[.bool b3, .slice A3 n3 c3], CAny⟩, ⟨w4.heap.size, 15, 0, 123, #[.bool b4, .slice A4 n4 c4], CAny⟩]) (x0 := (fun _ => undef)) (by kernel_rfl)
    (each_of ⟨fun _ _ => rfl, fun _ _ => rfl, fun _ _ => rfl, fun _ _ => rfl, fun _ _ => rfl, fun _ _ => rfl, fun _ _ => rfl, fun _ _ => rfl, fun _ _ => rfl, fun _ _ => rfl, fun _ _ => rfl, fun _ _ => rfl, fun _ _ => rfl, fun _ _ => rfl, fun _ _ => rfl, trivial⟩) (each_of (acyc_from _ 0 (by kernel_rfl))) (AllStab.get _ ⟨stEq _, stEq _, stEq _, stI _ _, stEq _, stEq _, stEq _, stEq _, stEq _, stI _ _, stI _ _, stEq _, stEq _, stEq _, stEq _, trivial⟩)
    (fun _ h => nomatch h) (fmc ⟨scAny, fmc ⟨scAny, fmc ⟨scAny, fun _ h => nomatch h⟩⟩⟩) (fun _ h => nomatch h) bw5.size
    (fmc ⟨⟨x1a, by show w.heap.size ≤ w.heap.size; omega⟩, fmc ⟨⟨x4a, by show w.heap.size ≤ w3.heap.size; omega⟩, fmc ⟨⟨x5a, by show w.heap.size ≤ w4.heap.size; omega⟩, fun _ h => nomatch h⟩⟩⟩) (ownDist (by simp <;> omega))
    (each_of ⟨?_, ?_, ?_, ?_, ?_, ?_, ?_, ?_, ?_, ?_, ?_, ?_, ?_, ?_, ?_, trivial⟩) ?_
  · exact .inl ⟨by simp, by simp, fun xf wq hk hbl hd K hK => by
      (try dsimp only)
      go_simp
      exact hK.out (.bool true) _ rfl (brefl _)⟩
  · exact .inl ⟨by simp, by simp, fun xf wq hk hbl hd K hK => by
      have dq0 : xf 0 = .bool true := hd ⟨0, .data⟩ (by simp) rfl
      (try dsimp only); (try simp only [dq0])
      go_simp
      have hz := hK.out (.bool true) _ rfl (brefl _)
      simp only [dq0] at hz
      exact hz⟩
  · exact .inl ⟨by simp, by simp, fun xf wq hk hbl hd K hK => by
      have dq1 : xf 1 = .bool true := hd ⟨1, .guard⟩ (by simp) rfl
      have y : Blk wq w4.heap.size 123 #[.bool b4, .slice A4 n4 c4] := hbl _ (List.Mem.tail _ (List.Mem.tail _ (List.Mem.head _))) (by simp [Region.binds])
      obtain ⟨hcl0, hcl1⟩ := y.c2
      (try dsimp only); (try simp only [dq1])
      go_simp
      have hz := hK.out (.agg #[.bool b4, .slice A4 n4 c4]) _ rfl (brefl _)
      simp only [dq1] at hz
      exact hz⟩
  · exact .inl ⟨by simp, by simp, fun xf wq hk hbl hd K hK => by
      have dq1 : xf 1 = .bool true := hd ⟨1, .guard⟩ (by simp) rfl
      (try dsimp only); (try simp only [dq1])
      go_simp
      go_at_call 73
      (with_reducible refine (f_one _).mono ?_); rintro e wr ⟨b7, A7, n7, c7, rfl, h7, hbr⟩
      have hz := hK.out _ _ ⟨b7, A7, n7, c7, rfl, h7⟩ hbr
      simp only [dq1] at hz
      exact hz⟩
  · exact .inl ⟨by simp, by simp, fun xf wq hk hbl hd K hK => by
      have dq2 : xf 2 = .agg #[.bool b4, .slice A4 n4 c4] := hd ⟨2, .data⟩ (by simp) rfl
      obtain ⟨b7, A7, n7, c7, dq3, h7⟩ : VI (1) (1) (xf 3) wq := hd ⟨3, .data⟩ (by simp) rfl
      have dq1 : xf 1 = .bool true := hd ⟨1, .guard⟩ (by simp) rfl
      (try dsimp only); (try simp only [dq2, dq3, dq1])
      go_simp
      go_at_call 71
      (with_reducible refine (i_cmp_v2 _ b4 A4 n4 c4 (valZ B) (65536) ?_ b7 A7 n7 c7 (1) (1) ?_ (1) H4.out ?_).mono ?_); (exact (h4.keep hk).iz); (exact h7.iz); (first | omega | assumption); rintro e wr ⟨rfl, hbr⟩
      have hz := hK.out (.int .i64 (1)) _ rfl hbr
      simp only [dq2, dq3, dq1] at hz
      exact hz⟩
  · exact .inl ⟨by simp, by simp, fun xf wq hk hbl hd K hK => by
      have dq4 : xf 4 = .int .i64 (1) := hd ⟨4, .data⟩ (by simp) rfl
      have dq1 : xf 1 = .bool true := hd ⟨1, .guard⟩ (by simp) rfl
      (try dsimp only); (try simp only [dq4, dq1])
      go_simp
      have hz := hK.out (.bool false) _ rfl (brefl _)
      simp only [dq4, dq1] at hz
      exact hz⟩
  · exact .inl ⟨by simp, by simp, fun xf wq hk hbl hd K hK => by
      have dq5 : xf 5 = .bool false := hd ⟨5, .data⟩ (by simp) rfl
      have dq1 : xf 1 = .bool true := hd ⟨1, .guard⟩ (by simp) rfl
      (try dsimp only); (try simp only [dq5, dq1])
      go_simp
      have hz := hK.out (.bool false) _ rfl (brefl _)
      simp only [dq5, dq1] at hz
      exact hz⟩
  · exact .inl ⟨by simp, by simp, fun xf wq hk hbl hd K hK => by
      have dq6 : xf 6 = .bool false := hd ⟨6, .guard⟩ (by simp) rfl
      have y : Blk wq w3.heap.size 123 #[.bool b3, .slice A3 n3 c3] := hbl _ (List.Mem.tail _ (List.Mem.head _)) (by simp [Region.binds])
      obtain ⟨hcl0, hcl1⟩ := y.c2
      (try dsimp only); (try simp only [dq6])
      go_simp
      have hz := hK.out (.agg #[.bool b3, .slice A3 n3 c3]) _ rfl (brefl _)
      simp only [dq6] at hz
      exact hz⟩
  · exact .inl ⟨by simp, by simp, fun xf wq hk hbl hd K hK => by
      have dq6 : xf 6 = .bool false := hd ⟨6, .guard⟩ (by simp) rfl
      have y : Blk wq w4.heap.size 123 #[.bool b4, .slice A4 n4 c4] := hbl _ (List.Mem.tail _ (List.Mem.tail _ (List.Mem.head _))) (by simp [Region.binds])
      obtain ⟨hcl0, hcl1⟩ := y.c2
      (try dsimp only); (try simp only [dq6])
      go_simp
      have hz := hK.out (.agg #[.bool b4, .slice A4 n4 c4]) _ rfl (brefl _)
      simp only [dq6] at hz
      exact hz⟩
  · exact .inl ⟨by simp, by simp, fun xf wq hk hbl hd K hK => by
      have dq7 : xf 7 = .agg #[.bool b3, .slice A3 n3 c3] := hd ⟨7, .data⟩ (by simp) rfl
      have dq8 : xf 8 = .agg #[.bool b4, .slice A4 n4 c4] := hd ⟨8, .data⟩ (by simp) rfl
      have dq6 : xf 6 = .bool false := hd ⟨6, .guard⟩ (by simp) rfl
      (try dsimp only); (try simp only [dq7, dq8, dq6])
      go_simp
      go_at_call 72
      (with_reducible refine (i_gcd _ b3 A3 n3 c3 (valZ F) (65536) ?_ b4 A4 n4 c4 (valZ B) (65536) ?_ ?_).mono ?_); (exact (h3.keep hk).iz); (exact (h4.keep hk).iz); (omega); rintro e wr ⟨b9, A9, n9, c9, rfl, h9, hbr⟩
      have hz := hK.out _ _ ⟨b9, A9, n9, c9, rfl, h9⟩ hbr
      simp only [dq7, dq8, dq6] at hz
      exact hz⟩
  · exact .inl ⟨by simp, by simp, fun xf wq hk hbl hd K hK => by
      have dq6 : xf 6 = .bool false := hd ⟨6, .guard⟩ (by simp) rfl
      (try dsimp only); (try simp only [dq6])
      go_simp
      go_at_call 73
      (with_reducible refine (f_one _).mono ?_); rintro e wr ⟨b10, A10, n10, c10, rfl, h10, hbr⟩
      have hz := hK.out _ _ ⟨b10, A10, n10, c10, rfl, h10⟩ hbr
      simp only [dq6] at hz
      exact hz⟩
  · exact .inl ⟨by simp, by simp, fun xf wq hk hbl hd K hK => by
      obtain ⟨b9, A9, n9, c9, dq9, h9⟩ : VI ((Nat.gcd ((valZ F) : Int).natAbs ((valZ B) : Int).natAbs : Nat)) ((65536) + (65536)) (xf 9) wq := hd ⟨9, .data⟩ (by simp) rfl
      obtain ⟨b10, A10, n10, c10, dq10, h10⟩ : VI (1) (1) (xf 10) wq := hd ⟨10, .data⟩ (by simp) rfl
      have dq6 : xf 6 = .bool false := hd ⟨6, .guard⟩ (by simp) rfl
      (try dsimp only); (try simp only [dq9, dq10, dq6])
      go_simp
      go_at_call 71
      (with_reducible refine (i_cmp_v2 _ b9 A9 n9 c9 ((Nat.gcd ((valZ F) : Int).natAbs ((valZ B) : Int).natAbs : Nat)) ((65536) + (65536)) ?_ b10 A10 n10 c10 (1) (1) ?_ (0) H5.out ?_).mono ?_); (exact h9.iz); (exact h10.iz); (first | omega | assumption); rintro e wr ⟨rfl, hbr⟩
      have hz := hK.out (.int .i64 (0)) _ rfl hbr
      simp only [dq9, dq10, dq6] at hz
      exact hz⟩
  · exact .inl ⟨by simp, by simp, fun xf wq hk hbl hd K hK => by
      have dq11 : xf 11 = .int .i64 (0) := hd ⟨11, .data⟩ (by simp) rfl
      have dq6 : xf 6 = .bool false := hd ⟨6, .guard⟩ (by simp) rfl
      (try dsimp only); (try simp only [dq11, dq6])
      go_simp
      have hz := hK.out (.bool false) _ rfl (brefl _)
      simp only [dq11, dq6] at hz
      exact hz⟩
  · exact .inl ⟨by simp, by simp, fun xf wq hk hbl hd K hK => by
      have dq6 : xf 6 = .bool false := hd ⟨6, .data⟩ (by simp) rfl
      have dq12 : xf 12 = .bool false := hd ⟨12, .data⟩ (by simp) rfl
      have dq1 : xf 1 = .bool true := hd ⟨1, .guard⟩ (by simp) rfl
      (try dsimp only); (try simp only [dq6, dq12, dq1])
      go_simp
      have hz := hK.out (.bool false) _ rfl (brefl _)
      simp only [dq6, dq12, dq1] at hz
      exact hz⟩
  · exact .inl ⟨by simp, by simp, fun xf wq hk hbl hd K hK => by
      have dq1 : xf 1 = .bool true := hd ⟨1, .data⟩ (by simp) rfl
      have dq13 : xf 13 = .bool false := hd ⟨13, .data⟩ (by simp) rfl
      (try dsimp only); (try simp only [dq1, dq13])
      go_simp
      have hz := hK.out (.bool false) _ rfl (brefl _)
      simp only [dq1, dq13] at hz
      exact hz⟩
  clear cx4a lx4a cx5a lx5a
  intro y6 w6 kq6 hbl6 lw6 how hrr hfl hds
  replace h3 := h3.keep kq6
  replace h4 := h4.keep kq6
  obtain ⟨_, z6_0, ez, _⟩ := how _ (List.Mem.head _)
  obtain rfl := ez (by simp)
  dsimp only at z6_0
  obtain ⟨_, z6_1, ez, _⟩ := how _ (List.Mem.tail _ (List.Mem.head _))
  obtain rfl := ez (by simp)
  dsimp only at z6_1
  obtain ⟨_, z6_2, ez, _⟩ := how _ (List.Mem.tail _ (List.Mem.tail _ (List.Mem.head _)))
  obtain rfl := ez (by simp)
  dsimp only at z6_2
  have ea14 : y6 14 = .bool false := hrr 14 (by simp)
  (try dsimp only)
  simp only [ea14]
  clear hrr hfl how hds ea14
  clear x1a x4a x5a
  have bw6 := bw5.trans hbl6
  clear bw5
  have cz6_1_0 : w6.cell? ⟨w3.heap.size, 0, none⟩ = some (.bool b3) := z6_1.cell 0
  have cz6_1_1 : w6.cell? ⟨w3.heap.size, 1, none⟩ = some (.slice A3 n3 c3) := z6_1.cell 1
  have lz6_1 := lts0 z6_1.lt
  have cz6_2_0 : w6.cell? ⟨w4.heap.size, 0, none⟩ = some (.bool b4) := z6_2.cell 0
  have cz6_2_1 : w6.cell? ⟨w4.heap.size, 1, none⟩ = some (.slice A4 n4 c4) := z6_2.cell 1
  have lz6_2 := lts0 z6_2.lt
  go_wp2_with fail
  (with_reducible refine (f_form _ b3 A3 n3 c3 (valZ F) (65536) ?_ b4 A4 n4 c4 (valZ B) (65536) ?_ (Rat.divInt (valZ F) (valZ B)) 65536 ?_ ?_ ?_ ?_).mono ?_); (exact h3.iz); (exact h4.iz); (exact HNE.out); (rfl); (exact HS.out); (omega); rintro e w13 ⟨b13, A13, n13, c13, A'13, n'13, c'13, rfl, h13, q13⟩
  clear cz6_1_0 cz6_1_1 lz6_1 cz6_2_0 cz6_2_1 lz6_2
  replace h3 := h3.belw q13
  replace h4 := h4.belw q13
  replace z6_0 := z6_0.b q13
  replace z6_1 := z6_1.b q13
  replace z6_2 := z6_2.b q13
  have bw13 := bw6.trans (q13.mono bw6.size)
  have lw13 := q13.size
  clear q13 bw6
  have cz6_0 := z6_0.c3
  have fz6_0 := z6_0.f3
  have lz6_0 := lts0 z6_0.lt
  go_wp2_with fail
  refine bodyPost_ret (v := .tuple #[.agg #[.bool b13, .slice A13 n13 c13, .slice A'13 n'13 c'13], .nilIface]) (by simp [results, Tryz.results34, go_sem, *] <;> trivial) rfl ?_
  exact ⟨b13, A13, n13, c13, A'13, n'13, c'13, rfl, h13.keep ((((Kp.refl w13).sb w.heap.size 0 z6_0.box (by decide) (.bool b13)).sb w.heap.size 1 (z6_0.box.set ⟨w.heap.size, 0, none⟩ (.bool b13)) (by decide) (.slice A13 n13 c13)).sb w.heap.size 2 ((z6_0.box.set ⟨w.heap.size, 0, none⟩ (.bool b13)).set ⟨w.heap.size, 1, none⟩ (.slice A13 n13 c13)) (by decide) (.slice A'13 n'13 c'13)), (((bw13.sc w.heap.size 0 (by omega) (.bool b13)).sc w.heap.size 1 (by omega) (.slice A13 n13 c13)).sc w.heap.size 2 (by omega) (.slice A'13 n'13 c'13))⟩
theorem f_parse_w2 (w : World) (s : List UInt8) (hmx : Mx w) (hl : s.length ≤ 65536) (hd : Lib.cut s [46] = (s, [], false)) (hc : Lib.cut s [47] = (s, [], false)) (h1 : okZ s = true) :
    Calls Tryz.prog 34 #[strV s] w (RetFe w .nilIface ((valZ s : Int) : Rat) 65536) := by
  have HS := Lib.hid (Sz_int (valZ_lt2 h1 hl) (by decide))
  have hszs := size_v s
  have hlen : ((65536 : Int) < (s.length : Int)) = False := by simp; omega
  have HC := Lib.hid hc
  have HD := Lib.hid hd
  clear hc hd
  have H1 := Lib.hid h1
  clear h1
  go_enter Tryz.func34, Tryz.ntmps34
  go_wp2_with fail
  (with_reducible refine (cut_v _ (s) 46 (s) ([]) false (hmx.belw ((brefl w).alloc (by first | omega | (simp <;> omega)) (.cells #[.bool false, .slice none 0 0, .slice none 0 0] 72))) (by omega) HD.out).mono ?_); rintro e w1 ⟨rfl, hb1⟩
  have q1 := hb1.q1
  have x1a : Blk w1 w.heap.size 72 #[.bool false, .slice none 0 0, .slice none 0 0] := (blkAt _ _ _ (by simp)).below hb1 (by simp)
  have bw1 := (brefl w).trans (q1.mono (brefl w).size)
  have lw1 := hb1.l1
  clear q1
  go_wp2_with fail
  (with_reducible refine (cut_v _ (s) 47 (s) ([]) false (hmx.belw bw1) (by omega) HC.out).mono ?_); rintro e w2 ⟨rfl, q2⟩
  replace x1a := x1a.b q2
  have bw2 := bw1.trans (q2.mono bw1.size)
  have lw2 := q2.size
  clear q2 bw1
  go_wp2_with fail
  (with_reducible refine (i_parse_ok6 _ (s) (by omega) H1.out).mono ?_); rintro e w3 ⟨b3, A3, n3, c3, rfl, h3, q3⟩
  replace x1a := x1a.b q3
  have bw3 := bw2.trans (q3.mono bw2.size)
  have lw3 := q3.size
  clear q3 bw2
  go_wp2_with fail
  (with_reducible refine (i_parse_one _ ([49]) rfl).mono ?_); rintro e w4 ⟨b4, A4, n4, c4, rfl, h4, hb4⟩
  have q4 := hb4.q1
  replace h3 := h3.belw q4
  replace x1a := x1a.b q4
  have x4a : Blk w4 w3.heap.size 123 #[.bool b3, .slice A3 n3 c3] := (blkAt _ _ _ (by simp)).below hb4 (by simp)
  have bw4 := bw3.trans (q4.mono bw3.size)
  have lw4 := hb4.l1
  clear q4 bw3
  go_wp2_with fail
  (with_reducible refine (i_sign_e _ b4 A4 n4 c4 (1) (1) ?_ (1) ?_ ?_).mono ?_); (exact (h4.belw ((Below.refl _ _).alloc (Nat.le_refl _) _)).iz); (exact rfl); (omega); rintro e w5 ⟨rfl, hb5⟩
  have q5 := hb5.q1
  replace h3 := h3.belw q5
  replace h4 := h4.belw q5
  replace x1a := x1a.b q5
  replace x4a := x4a.b q5
  have x5a : Blk w5 w4.heap.size 123 #[.bool b4, .slice A4 n4 c4] := (blkAt _ _ _ (by simp)).below hb5 (by simp)
  have bw5 := bw4.trans (q5.mono bw4.size)
  have lw5 := hb5.l1
  clear q5 bw4
  go_wp2_with fail
  refine wp_region_lin (B := w.heap.size) (fr := fun xf => ⟨List.toArray (strV s :: undef :: .pointer (some ⟨w.heap.size, 0, none⟩) :: .nilIface :: strV s :: strV [] :: .bool false :: strV s :: .string ⟨[49].toArray⟩ :: .bool false :: .pointer (some ⟨w3.heap.size, 0, none⟩) :: .nilIface :: .pointer (some ⟨w4.heap.size, 0, none⟩) :: .nilIface :: strV s :: .int .i64 (s.length : Nat) :: .bool false :: undef :: undef :: .tuple #[strV s, strV [], .bool false] :: strV s :: .tuple #[strV s, strV [], .bool false] :: strV s :: strV [] :: .bool false :: .bool false :: undef :: undef :: undef :: undef :: undef :: undef :: undef :: undef :: undef :: undef :: .tuple #[strV s, strV [], .bool false] :: strV s :: .tuple #[strV s, strV [], .bool false] :: strV s :: strV [] :: .bool false :: .bool false :: .bool true :: .tuple #[.agg #[.bool b3, .slice A3 n3 c3], .nilIface] :: strV s :: .tuple #[.agg #[.bool b3, .slice A3 n3 c3], .nilIface] :: .agg #[.bool b3, .slice A3 n3 c3] :: .nilIface :: .tuple #[.agg #[.bool b4, .slice A4 n4 c4], .nilIface] :: .string ⟨[49].toArray⟩ :: .tuple #[.agg #[.bool b4, .slice A4 n4 c4], .nilIface] :: .agg #[.bool b4, .slice A4 n4 c4] :: .nilIface :: .nilIface :: .bool false :: .bool false :: .nilIface :: .bool false :: .bool false :: .bool false :: .agg #[.bool b4, .slice A4 n4 c4] :: .int .i64 1 :: .bool false :: .bool false :: undef :: undef :: xf 0 :: xf 1 :: xf 2 :: xf 3 :: xf 4 :: xf 5 :: xf 6 :: xf 7 :: xf 8 :: xf 9 :: xf 10 :: xf 11 :: xf 12 :: xf 13 :: xf 14 :: undef :: undef :: undef :: undef :: undef :: []), []⟩) (R := fun ri => List.getD ((PEq (.bool false)) :: (PEq (.bool false)) :: (PEq undef) :: (PEq undef) :: (PEq undef) :: (PEq undef) :: (PEq undef) :: (PEq undef) :: (PEq undef) :: (PEq undef) :: (PEq undef) :: (PEq undef) :: (PEq undef) :: (PEq undef) :: (PEq (.bool false)) :: []) ri (fun _ _ => True)) (es := []) (ow := [⟨w.heap.size, 15, 0, 72, #[.bool false, .slice none 0 0, .slice none 0 0], CAny⟩, ⟨w3.heap.size, 15, 0, 123, #[.bool b3, .slice A3 n3 c3], CAny⟩, ⟨w4.heap.size, 15, 0, 123, #[.bool b4, .slice A4 n4 c4], CAny⟩]) (x0 := (fun _ => undef)) (by kernel_rfl)
    (each_of ⟨fun _ _ => rfl, fun _ _ => rfl, fun _ _ => rfl, fun _ _ => rfl, fun _ _ => rfl, fun _ _ => rfl, fun _ _ => rfl, fun _ _ => rfl, fun _ _ => rfl, fun _ _ => rfl, fun _ _ => rfl, fun _ _ => rfl, fun _ _ => rfl, fun _ _ => rfl, fun _ _ => rfl, trivial⟩) (each_of (acyc_from _ 0 (by kernel_rfl))) (AllStab.get _ ⟨stEq _, stEq _, stEq _, stEq _, stEq _, stEq _, stEq _, stEq _, stEq _, stEq _, stEq _, stEq _, stEq _, stEq _, stEq _, trivial⟩)
    (fun _ h => nomatch h) (fmc ⟨scAny, fmc ⟨scAny, fmc ⟨scAny, fun _ h => nomatch h⟩⟩⟩) (fun _ h => nomatch h) bw5.size
    (fmc ⟨⟨x1a, by show w.heap.size ≤ w.heap.size; omega⟩, fmc ⟨⟨x4a, by show w.heap.size ≤ w3.heap.size; omega⟩, fmc ⟨⟨x5a, by show w.heap.size ≤ w4.heap.size; omega⟩, fun _ h => nomatch h⟩⟩⟩) (ownDist (by simp <;> omega))
    (each_of ⟨?_, ?_, ?_, ?_, ?_, ?_, ?_, ?_, ?_, ?_, ?_, ?_, ?_, ?_, ?_, trivial⟩) ?_
  · exact .inl ⟨by simp, by simp, fun xf wq hk hbl hd K hK => by
      (try dsimp only)
      go_simp
      exact hK.out (.bool false) _ rfl (brefl _)⟩
  · exact .inl ⟨by simp, by simp, fun xf wq hk hbl hd K hK => by
      have dq0 : xf 0 = .bool false := hd ⟨0, .data⟩ (by simp) rfl
      (try dsimp only); (try simp only [dq0])
      go_simp
      have hz := hK.out (.bool false) _ rfl (brefl _)
      simp only [dq0] at hz
      exact hz⟩
  · exact .inl ⟨by simp, by simp, fun xf wq hk hbl hd K hK => by
      have dq1 : xf 1 = .bool false := hd ⟨1, .guard⟩ (by simp) rfl
      (try dsimp only); (try simp only [dq1])
      go_simp
      have hz := hK.out undef _ rfl (brefl _)
      simp only [dq1] at hz
      exact hz⟩
  · exact .inl ⟨by simp, by simp, fun xf wq hk hbl hd K hK => by
      have dq1 : xf 1 = .bool false := hd ⟨1, .guard⟩ (by simp) rfl
      (try dsimp only); (try simp only [dq1])
      go_simp
      have hz := hK.out undef _ rfl (brefl _)
      simp only [dq1] at hz
      exact hz⟩
  · exact .inl ⟨by simp, by simp, fun xf wq hk hbl hd K hK => by
      have dq1 : xf 1 = .bool false := hd ⟨1, .guard⟩ (by simp) rfl
      (try dsimp only); (try simp only [dq1])
      go_simp
      have hz := hK.out undef _ rfl (brefl _)
      simp only [dq1] at hz
      exact hz⟩
  · exact .inl ⟨by simp, by simp, fun xf wq hk hbl hd K hK => by
      have dq1 : xf 1 = .bool false := hd ⟨1, .guard⟩ (by simp) rfl
      (try dsimp only); (try simp only [dq1])
      go_simp
      have hz := hK.out undef _ rfl (brefl _)
      simp only [dq1] at hz
      exact hz⟩
  · exact .inl ⟨by simp, by simp, fun xf wq hk hbl hd K hK => by
      have dq1 : xf 1 = .bool false := hd ⟨1, .guard⟩ (by simp) rfl
      (try dsimp only); (try simp only [dq1])
      go_simp
      have hz := hK.out undef _ rfl (brefl _)
      simp only [dq1] at hz
      exact hz⟩
  · exact .inl ⟨by simp, by simp, fun xf wq hk hbl hd K hK => by
      have dq6 : xf 6 = undef := hd ⟨6, .guard⟩ (by simp) rfl
      (try dsimp only); (try simp only [dq6])
      go_simp
      have hz := hK.out undef _ rfl (brefl _)
      simp only [dq6] at hz
      exact hz⟩
  · exact .inl ⟨by simp, by simp, fun xf wq hk hbl hd K hK => by
      have dq6 : xf 6 = undef := hd ⟨6, .guard⟩ (by simp) rfl
      (try dsimp only); (try simp only [dq6])
      go_simp
      have hz := hK.out undef _ rfl (brefl _)
      simp only [dq6] at hz
      exact hz⟩
  · exact .inl ⟨by simp, by simp, fun xf wq hk hbl hd K hK => by
      have dq6 : xf 6 = undef := hd ⟨6, .guard⟩ (by simp) rfl
      (try dsimp only); (try simp only [dq6])
      go_simp
      have hz := hK.out undef _ rfl (brefl _)
      simp only [dq6] at hz
      exact hz⟩
  · exact .inl ⟨by simp, by simp, fun xf wq hk hbl hd K hK => by
      have dq6 : xf 6 = undef := hd ⟨6, .guard⟩ (by simp) rfl
      (try dsimp only); (try simp only [dq6])
      go_simp
      have hz := hK.out undef _ rfl (brefl _)
      simp only [dq6] at hz
      exact hz⟩
  · exact .inl ⟨by simp, by simp, fun xf wq hk hbl hd K hK => by
      have dq6 : xf 6 = undef := hd ⟨6, .guard⟩ (by simp) rfl
      (try dsimp only); (try simp only [dq6])
      go_simp
      have hz := hK.out undef _ rfl (brefl _)
      simp only [dq6] at hz
      exact hz⟩
  · exact .inl ⟨by simp, by simp, fun xf wq hk hbl hd K hK => by
      have dq6 : xf 6 = undef := hd ⟨6, .guard⟩ (by simp) rfl
      (try dsimp only); (try simp only [dq6])
      go_simp
      have hz := hK.out undef _ rfl (brefl _)
      simp only [dq6] at hz
      exact hz⟩
  · exact .inl ⟨by simp, by simp, fun xf wq hk hbl hd K hK => by
      have dq1 : xf 1 = .bool false := hd ⟨1, .guard⟩ (by simp) rfl
      (try dsimp only); (try simp only [dq1])
      go_simp
      have hz := hK.out undef _ rfl (brefl _)
      simp only [dq1] at hz
      exact hz⟩
  · exact .inl ⟨by simp, by simp, fun xf wq hk hbl hd K hK => by
      have dq1 : xf 1 = .bool false := hd ⟨1, .data⟩ (by simp) rfl
      have dq13 : xf 13 = undef := hd ⟨13, .data⟩ (by simp) rfl
      (try dsimp only); (try simp only [dq1, dq13])
      go_simp
      have hz := hK.out (.bool false) _ rfl (brefl _)
      simp only [dq1, dq13] at hz
      exact hz⟩
  intro y6 w6 kq6 hbl6 lw6 how hrr hfl hds
  replace h3 := h3.keep kq6
  replace h4 := h4.keep kq6
  obtain ⟨_, z6_0, ez, _⟩ := how _ (List.Mem.head _)
  obtain rfl := ez (by simp)
  dsimp only at z6_0
  obtain ⟨_, z6_1, ez, _⟩ := how _ (List.Mem.tail _ (List.Mem.head _))
  obtain rfl := ez (by simp)
  dsimp only at z6_1
  obtain ⟨_, z6_2, ez, _⟩ := how _ (List.Mem.tail _ (List.Mem.tail _ (List.Mem.head _)))
  obtain rfl := ez (by simp)
  dsimp only at z6_2
  have ea14 : y6 14 = .bool false := hrr 14 (by simp)
  (try dsimp only)
  simp only [ea14]
  clear hrr hfl how hds ea14
  clear x1a x4a x5a
  have bw6 := bw5.trans hbl6
  clear bw5
  have cz6_1 := z6_1.c2
  have lz6_1 := lts0 z6_1.lt
  have cz6_2 := z6_2.c2
  have lz6_2 := lts0 z6_2.lt
  go_wp2_with fail
  (with_reducible refine (f_form _ b3 A3 n3 c3 (valZ s) (65536) ?_ b4 A4 n4 c4 (1) (1) ?_ ((valZ s : Int) : Rat) 65536 ?_ ?_ ?_ ?_).mono ?_); (exact h3.iz); (exact h4.iz); (decide); (exact int_q _); (exact HS.out); (omega); rintro e w8 ⟨b8, A8, n8, c8, A'8, n'8, c'8, rfl, h8, q8⟩
  clear cz6_1 lz6_1 cz6_2 lz6_2
  replace h3 := h3.belw q8
  replace h4 := h4.belw q8
  replace z6_0 := z6_0.b q8
  replace z6_1 := z6_1.b q8
  replace z6_2 := z6_2.b q8
  have bw8 := bw6.trans (q8.mono bw6.size)
  have lw8 := q8.size
  clear q8 bw6
  have cz6_0 := z6_0.c3
  have fz6_0 := z6_0.f3
  have lz6_0 := lts0 z6_0.lt
  go_wp2_with fail
  refine bodyPost_ret (v := .tuple #[.agg #[.bool b8, .slice A8 n8 c8, .slice A'8 n'8 c'8], .nilIface]) (by simp [results, Tryz.results34, go_sem, *] <;> trivial) rfl ?_
  exact ⟨b8, A8, n8, c8, A'8, n'8, c'8, rfl, h8.keep ((((Kp.refl w8).sb w.heap.size 0 z6_0.box (by decide) (.bool b8)).sb w.heap.size 1 (z6_0.box.set ⟨w.heap.size, 0, none⟩ (.bool b8)) (by decide) (.slice A8 n8 c8)).sb w.heap.size 2 ((z6_0.box.set ⟨w.heap.size, 0, none⟩ (.bool b8)).set ⟨w.heap.size, 1, none⟩ (.slice A8 n8 c8)) (by decide) (.slice A'8 n'8 c'8)), (((bw8.sc w.heap.size 0 (by omega) (.bool b8)).sc w.heap.size 1 (by omega) (.slice A8 n8 c8)).sc w.heap.size 2 (by omega) (.slice A'8 n'8 c'8))⟩
end Go.Proofs.YtoiijifnfdgfpaaGreatDoor

/- Values of numbers: plain. -/
namespace Go.Proofs.YtoiijifnfdgfpaaGreatDoor
open Go Go.RowKit Bn
attribute [local go_sem ↓] Go.wp_at_zero Go.wp_at_succ
def isD (D : List UInt8) : Prop := D ≠ [] ∧ D.all isDg = true
def sg (m : Bool) (D : List UInt8) : List UInt8 := if m then 45 :: D else D
def sgI (m : Bool) (n : Int) : Int := if m then -n else n
inductive NumForm (s : List UInt8) : Prop
  | whole (m : Bool) (D : List UInt8) (hD : isD D) (hs : s = sg m D)
  | quo (m : Bool) (D E : List UInt8) (hD : isD D) (hE : isD E) (hs : s = sg m (D ++ 47 :: E))
  | dot (m : Bool) (D E : List UInt8) (hD : isD D) (hE : isD E) (hs : s = sg m (D ++ 46 :: E))
theorem tw_full {p : UInt8 → Bool} : ∀ {l : List UInt8}, (l.takeWhile p).length = l.length → l.all p = true := by
  intro l h
  have e : l.takeWhile p = l := (List.takeWhile_sublist p).eq_of_length h
  rw [← e]
  exact tw_all l
theorem digits_front {r : List UInt8} {k : Nat} (h : digN r = k) (hk : 0 < k) : ∃ D d, r = D ++ d ∧ D.length = k ∧ isD D := by
  obtain ⟨d, hd, _⟩ := tw_split isDg r
  refine ⟨r.takeWhile isDg, d, hd, h, ?_, tw_all r⟩
  intro e
  unfold digN at h
  rw [e] at h
  simp at h; omega
theorem num_full {s : List UInt8} (h : numN s = s.length) (h0 : 0 < s.length) : NumForm s := by
  obtain ⟨m, k, hm, hk, hc⟩ := num_cases (s := s) (i := 0) (v := s.length) h
  simp only [Nat.zero_add] at hk hc
  obtain ⟨b, hb⟩ : ∃ b : Bool, s = sg b (s.drop m) := by
    rcases hm with ⟨rfl, ha⟩ | ⟨rfl, _⟩
    · refine ⟨true, ?_⟩
      have := drop_at h0
      rw [ha] at this
      exact this
    · exact ⟨false, rfl⟩
  rcases hc with ⟨_, hv⟩ | ⟨hkp, d, hd, hc⟩
  · omega
  obtain ⟨D, r, hr, hDl, hD⟩ := digits_front hk hkp
  have hml : m + k ≤ s.length := digN_drop hk hkp
  have hrl : r.length = s.length - (m + k) := by
    have := congrArg List.length hr
    rw [List.length_drop, List.length_append] at this
    omega
  rcases hc with ⟨_, _, hv⟩ | ⟨hdd, t, ht, hc⟩
  · have : r = [] := List.eq_nil_of_length_eq_zero (by omega)
    subst this
    rw [List.append_nil] at hr
    exact .whole b D hD (by rw [← hr]; exact hb)
  · have hin : m + k < s.length := by rcases hdd with e | e <;> exact atB_in hd (by rw [e]; decide)
    rcases hc with ⟨_, hv⟩ | ⟨htp, hv⟩
    · omega
    · have e1 : s.drop (m + k) = r := by rw [← List.drop_drop, hr, ← hDl, List.drop_left]
      have e2 := drop_at hin
      rw [e1, hd] at e2
      have hE : isD (s.drop (m + k + 1)) := by
        refine ⟨fun e => ?_, tw_full (p := isDg) ?_⟩
        · rw [e] at ht; simp [digN] at ht; omega
        · show digN (s.drop (m + k + 1)) = _
          rw [ht, List.length_drop]; omega
      rw [e2] at hr
      rw [hr] at hb
      rcases hdd with rfl | rfl
      · exact .dot b D _ hD hE hb
      · exact .quo b D _ hD hE hb
theorem isD_head {D : List UInt8} (h : isD D) : ∃ c t, D = c :: t ∧ isDg c = true := by
  obtain ⟨h1, h2⟩ := h
  cases D with
  | nil => exact absurd rfl h1
  | cons c t => rw [List.all_cons, Bool.and_eq_true] at h2; exact ⟨c, t, rfl, h2.1⟩
theorem isD_no {D : List UInt8} (h : isD D) {c : UInt8} (hc : isDg c = false) : c ∉ D := fun hm => by
  have := List.all_eq_true.1 h.2 c hm
  rw [hc] at this; cases this
theorem headM_sg {m : Bool} {D r : List UInt8} (h : isD D) : headM (sg m (D ++ r)) = m ∧ tailS (sg m (D ++ r)) = D ++ r := by
  obtain ⟨c, t, rfl, hc⟩ := isD_head h
  have h45 : c ≠ 45 := by rintro rfl; exact absurd hc (by decide)
  cases m
  · show headM (c :: (t ++ r)) = false ∧ tailS (c :: (t ++ r)) = _
    refine ⟨?_, ?_⟩
    · unfold headM; split
      · rename_i h1; injection h1 with h2; exact absurd h2 h45
      · rfl
    · unfold tailS; split
      · rename_i h1; injection h1 with h2; exact absurd h2 h45
      · rfl
  · exact ⟨rfl, rfl⟩
def plainT (D : List UInt8) : List UInt8 := if D.dropWhile (· == 48) = [] then [48] else D.dropWhile (· == 48)
theorem decVal_zero (t : List UInt8) : decVal (48 :: t) = decVal t := by
  have := decVal_app [48] t
  rw [show decVal [48] = 0 from rfl, Nat.zero_mul, Nat.zero_add] at this
  exact this
theorem plain_ok : ∀ {D : List UInt8}, D.all isDg = true → okZ (plainT D) = true ∧ valZ (plainT D) = (decVal D : Int) ∧ (plainT D).length ≤ max 1 D.length := by
  intro D
  induction D with
  | nil => intro _; exact ⟨by decide, by decide, by decide⟩
  | cons c t ih =>
    intro h
    rw [List.all_cons, Bool.and_eq_true] at h
    by_cases hc : c = 48
    · subst hc
      have e : plainT (48 :: t) = plainT t := by unfold plainT; simp
      rw [e, decVal_zero]
      obtain ⟨h1, h2, h3⟩ := ih h.2
      refine ⟨h1, h2, ?_⟩
      rw [List.length_cons]; omega
    · have e : plainT (c :: t) = c :: t := by unfold plainT; simp [hc]
      have h45 : c ≠ 45 := by rintro rfl; exact absurd h.1 (by decide)
      have eh : headM (c :: t) = false := by
        unfold headM; split
        · rename_i h1; injection h1 with h2; exact absurd h2 h45
        · rfl
      have et : tailS (c :: t) = c :: t := by
        unfold tailS; split
        · rename_i h1; injection h1 with h2; exact absurd h2 h45
        · rfl
      rw [e]
      refine ⟨?_, ?_, by omega⟩
      · unfold okZ
        rw [eh, et]
        simp [h.1, hc]
        simpa using h.2
      · unfold valZ
        rw [eh, et]; rfl
inductive ValOut (s : List UInt8) (x : Int) (q : Rat) : Prop
  | large (h : 60 < s.length) (hx : x = 4) (hq : q = 0)
  | bad (h : s.length ≤ 60) (hb : s.length = 0 ∨ numN s ≠ s.length) (hx : x = 2) (hq : q = 0)
  | whole (m : Bool) (D : List UInt8) (h : s.length ≤ 60) (hn : numN s = s.length) (hD : isD D) (hs : s = sg m D) (hx : x = 0) (hq : q = ((sgI m (decVal D) : Int) : Rat))
  | quo0 (m : Bool) (D E : List UInt8) (h : s.length ≤ 60) (hn : numN s = s.length) (hD : isD D) (hE : isD E) (hs : s = sg m (D ++ 47 :: E)) (h0 : decVal E = 0) (hx : x = 8) (hq : q = 0)
  | quo (m : Bool) (D E : List UInt8) (h : s.length ≤ 60) (hn : numN s = s.length) (hD : isD D) (hE : isD E) (hs : s = sg m (D ++ 47 :: E)) (h0 : decVal E ≠ 0) (hx : x = 0) (hq : q = Rat.divInt (sgI m (decVal D)) (decVal E))
  | dot (m : Bool) (D E : List UInt8) (h : s.length ≤ 60) (hn : numN s = s.length) (hD : isD D) (hE : isD E) (hs : s = sg m (D ++ 46 :: E)) (hx : x = 0) (hq : q = Rat.divInt (sgI m (decVal (D ++ E))) ((10 ^ E.length : Nat) : Int))
theorem valOut (s : List UInt8) : ∃ x q, ValOut s x q := by
  by_cases h : 60 < s.length
  · exact ⟨4, 0, .large h rfl rfl⟩
  · by_cases hb : s.length = 0 ∨ numN s ≠ s.length
    · exact ⟨2, 0, .bad (by omega) hb rfl rfl⟩
    · have hb1 : numN s = s.length := by
        by_cases e : numN s = s.length
        · exact e
        · exact absurd (.inr e) hb
      have hb2 : 0 < s.length := by
        rcases Nat.eq_zero_or_pos s.length with e | e
        · exact absurd (.inl e) hb
        · exact e
      rcases num_full hb1 hb2 with ⟨m, D, hD, hs⟩ | ⟨m, D, E, hD, hE, hs⟩ | ⟨m, D, E, hD, hE, hs⟩
      · exact ⟨0, _, .whole m D (by omega) hb1 hD hs rfl rfl⟩
      · by_cases h0 : decVal E = 0
        · exact ⟨8, _, .quo0 m D E (by omega) hb1 hD hE hs h0 rfl rfl⟩
        · exact ⟨0, _, .quo m D E (by omega) hb1 hD hE hs h0 rfl rfl⟩
      · exact ⟨0, _, .dot m D E (by omega) hb1 hD hE hs rfl rfl⟩
theorem ten_pow_val (n : Nat) : plainT (49 :: List.replicate n 48) = 49 :: List.replicate n 48 ∧ decVal (49 :: List.replicate n 48) = 10 ^ n ∧ (49 :: List.replicate n 48).all isDg = true := by
  refine ⟨by unfold plainT; simp, ?_, ?_⟩
  · induction n with
    | zero => rfl
    | succ n ih =>
      rw [List.replicate_succ', ← List.cons_append, decVal_snoc, ih, show dval 48 = 0 from rfl, Nat.pow_succ]; omega
  · rw [List.all_cons, Bool.and_eq_true]
    refine ⟨by decide, ?_⟩
    rw [List.all_eq_true]
    intro c hc
    rw [List.eq_of_mem_replicate hc]; decide
theorem dec_sz60 {D : List UInt8} (h : D.all isDg = true) (hl : D.length ≤ 60) : decVal D < 4294967296 ^ 60 := by
  have h1 := decVal_lt h
  have h2 : (10 : Nat) ^ D.length ≤ 10 ^ 60 := Nat.pow_le_pow_right (by decide) hl
  have h3 : (10 : Nat) ^ 60 < 4294967296 ^ 60 := by decide
  omega
theorem sgI_abs (m : Bool) (n : Nat) : (sgI m (n : Int)).natAbs = n := by cases m <;> simp [sgI]
end Go.Proofs.YtoiijifnfdgfpaaGreatDoor

/- Reading linkages: plain: what is read off tokens. -/
namespace Go.Proofs.YtoiijifnfdgfpaaGreatDoor
open Go Go.RowKit Bn
attribute [local go_sem ↓] Go.wp_at_zero Go.wp_at_succ
noncomputable def valX (s : List UInt8) : Int := (valOut s).choose
noncomputable def valQ (s : List UInt8) : Rat := (valOut s).choose_spec.choose
theorem val_out (s : List UInt8) : ValOut s (valX s) (valQ s) := (valOut s).choose_spec.choose_spec
structure PS where
  toks : List Tkn
  L : LinkL
  x : Int
def PS.fail (s : PS) (e : Int) : PS := if s.x = 0 then { s with x := e } else s
def PS.next (s : PS) (k : Nat) : Option (List UInt8) × PS :=
  if s.x ≠ 0 then (none, s) else match s.toks with
    | [] => (none, { s with x := 18 })
    | t :: _ => if t.kind = k then (some t.text, s) else (none, { s with x := 2 })
def PS.drop1 (s : PS) : PS := { s with toks := s.toks.drop 1 }
def PS.word (s : PS) : List UInt8 × PS := match s.next 0 with
  | (some t, s') => (t, s'.drop1)
  | (none, s') => ([], s')
def PS.expect (s : PS) (k : Nat) (text : List UInt8) : PS := match s.next k with
  | (some t, s') => if t = text then s'.drop1 else s'.fail 2
  | (none, s') => s'
noncomputable def PS.number (s : PS) : Rat × PS := match s.next 1 with
  | (some t, s') => if valX t ≠ 0 then (0, s'.fail (valX t)) else (valQ t, s'.drop1)
  | (none, s') => (0, s')
noncomputable def PS.mark (s : PS) : MarkL × PS :=
  (⟨s.word.1, rd s.word.2.number.1, rd s.word.2.number.2.number.1⟩, s.word.2.number.2.number.2.expect 2 [59])
def PS.signHead (s : PS) : Bool := match s.toks with | t :: _ => t.kind == 2 | [] => false
noncomputable def PS.marks : Nat → PS → List MarkL → List MarkL × PS
  | 0, s, l => (l, s)
  | f + 1, s, l => if s.x ≠ 0 then (l, s) else if s.signHead then (l, s.expect 2 [125]) else PS.marks f s.mark.2 (l ++ [s.mark.1])
noncomputable def PS.body (s : PS) : BodyL × PS :=
  let r := PS.marks (s.toks.length + 1) (s.word.2.expect 2 [123]) []
  (⟨s.word.1, r.1⟩, r.2)
def findB (l : List BodyL) (nm : List UInt8) : Option Nat := l.findIdx? fun b => b.name == nm
def findM (l : List MarkL) (nm : List UInt8) : Option Nat := l.findIdx? fun m => m.name == nm
def PS.named (s : PS) (only : Int) : Int × PS :=
  let s' := s.word.2
  if s'.x ≠ 0 then (0, s') else match findB s'.L.bodies s.word.1 with
    | some i => ((i : Int), if 0 ≤ only ∧ (i : Int) ≠ only then s'.fail 7 else s')
    | none => (0, s'.fail 5)
def PS.full (s : PS) (only : Int) : Int × Int × PS :=
  let b := (s.named only).1
  let s1 := (s.named only).2.expect 2 [46]
  let s2 := s1.word.2
  if s2.x ≠ 0 then (0, 0, s2) else match findM (ptsAt s2.L b) s1.word.1 with
    | some i => (b, (i : Int), s2)
    | none => (0, 0, s2.fail 5)
def PS.addB (s : PS) (b : BodyL) : PS := { s with L := { s.L with bodies := s.L.bodies ++ [b] } }
def PS.addJ (s : PS) (j : JointL) : PS := { s with L := { s.L with joints := s.L.joints ++ [j] } }
def PS.addD (s : PS) (d : DriverL) : PS := { s with L := { s.L with drivers := s.L.drivers ++ [d] } }
def PS.joint (s : PS) (slide : Bool) : PS :=
  let a := s.word.2.full (-1)
  let b := a.2.2.full (-1)
  let t : Int × Int × PS := if slide then b.2.2.full b.1 else (0, 0, b.2.2)
  (t.2.2.expect 2 [59]).addJ ⟨s.word.1, if slide then 1 else 0, a.1, a.2.1, b.1, b.2.1, t.2.1⟩
def PS.driver (s : PS) : PS :=
  let d := s.word.2.named (-1)
  (d.2.expect 2 [59]).addD ⟨s.word.1, d.1⟩
def wBody : List UInt8 := [98, 111, 100, 121]
def wPin : List UInt8 := [112, 105, 110]
def wSlide : List UInt8 := [115, 108, 105, 100, 101]
def wDriver : List UInt8 := [100, 114, 105, 118, 101, 114]
def wLinkage : List UInt8 := [108, 105, 110, 107, 97, 103, 101]
noncomputable def PS.item (s : PS) : PS :=
  let s' := s.word.2
  if s.word.1 = wBody then s'.body.2.addB s'.body.1
  else if s.word.1 = wPin then s'.joint false
  else if s.word.1 = wSlide then s'.joint true
  else if s.word.1 = wDriver then s'.driver
  else s'.fail 2
noncomputable def PS.items : Nat → PS → PS
  | 0, s => s
  | f + 1, s => if s.x = 0 ∧ s.toks ≠ [] then PS.items f s.item else s
def L0 : LinkL := ⟨[], [], [], []⟩
noncomputable def readL (l : List Tkn) : PS :=
  let s1 := (⟨l, L0, 0⟩ : PS).expect 0 wLinkage
  let s2 := s1.word.2
  let s3 : PS := { s2 with L := { s2.L with name := s1.word.1 } }
  PS.items (l.length + 1) (s3.expect 2 [59])
inductive ReadOut (s : List UInt8) (x : Int) (L : LinkL) : Prop
  | split (l : List Tkn) (hs : SplitOut s x l) (hx : x ≠ 0) (hL : L = L0)
  | read (l : List Tkn) (hs : SplitOut s 0 l) (hr : (readL l).x = x) (hx : x ≠ 0) (hL : L = L0)
  | check (l : List Tkn) (hs : SplitOut s 0 l) (hr : (readL l).x = 0) (hc : lkErr (readL l).L = x) (hx : x ≠ 0) (hL : L = L0)
  | ok (l : List Tkn) (hs : SplitOut s 0 l) (hr : (readL l).x = 0) (hc : lkErr (readL l).L = 0) (hx : x = 0) (hL : L = (readL l).L)
theorem ReadOut.uniq {s : List UInt8} {x y : Int} {L M : LinkL} (h : ReadOut s x L) (h' : ReadOut s y M) : x = y ∧ L = M := by
  cases h with
  | split l hs hx hL =>
    cases h' with
    | split l' hs' hx' hL' => exact ⟨(hs.uniq hs').1, by rw [hL, hL']⟩
    | read l' hs' _ _ _ => exact absurd (hs.uniq hs').1 hx
    | check l' hs' _ _ _ _ => exact absurd (hs.uniq hs').1 hx
    | ok l' hs' _ _ _ _ => exact absurd (hs.uniq hs').1 hx
  | read l hs hr hx hL =>
    cases h' with
    | split l' hs' hx' hL' => exact absurd (hs.uniq hs').1.symm hx'
    | read l' hs' hr' hx' hL' =>
      obtain ⟨_, rfl⟩ := hs.uniq hs'
      exact ⟨hr.symm.trans hr', by rw [hL, hL']⟩
    | check l' hs' hr' _ _ _ =>
      obtain ⟨_, rfl⟩ := hs.uniq hs'
      exact absurd (hr.symm.trans hr') hx
    | ok l' hs' hr' _ _ _ =>
      obtain ⟨_, rfl⟩ := hs.uniq hs'
      exact absurd (hr.symm.trans hr') hx
  | check l hs hr hc hx hL =>
    cases h' with
    | split l' hs' hx' hL' => exact absurd (hs.uniq hs').1.symm hx'
    | read l' hs' hr' hx' hL' =>
      obtain ⟨_, rfl⟩ := hs.uniq hs'
      exact absurd (hr'.symm.trans hr) hx'
    | check l' hs' hr' hc' hx' hL' =>
      obtain ⟨_, rfl⟩ := hs.uniq hs'
      exact ⟨hc.symm.trans hc', by rw [hL, hL']⟩
    | ok l' hs' hr' hc' _ _ =>
      obtain ⟨_, rfl⟩ := hs.uniq hs'
      exact absurd (hc.symm.trans hc') hx
  | ok l hs hr hc hx hL =>
    cases h' with
    | split l' hs' hx' hL' => exact absurd (hs.uniq hs').1.symm hx'
    | read l' hs' hr' hx' hL' =>
      obtain ⟨_, rfl⟩ := hs.uniq hs'
      exact absurd (hr'.symm.trans hr) hx'
    | check l' hs' hr' hc' hx' hL' =>
      obtain ⟨_, rfl⟩ := hs.uniq hs'
      exact absurd (hc'.symm.trans hc) hx'
    | ok l' hs' hr' hc' hx' hL' =>
      obtain ⟨_, rfl⟩ := hs.uniq hs'
      exact ⟨by rw [hx, hx'], by rw [hL, hL']⟩
end Go.Proofs.YtoiijifnfdgfpaaGreatDoor

/- Reading linkages, plain: how many tokens are left, what does not turn. -/
namespace Go.Proofs.YtoiijifnfdgfpaaGreatDoor
open Go Go.RowKit Bn
attribute [local go_sem ↓] Go.wp_at_zero Go.wp_at_succ
def Stp (d : Nat) (s s' : PS) : Prop := s'.toks.length ≤ s.toks.length ∧ (s.x ≠ 0 → s' = s) ∧ (s'.x = 0 → s.x = 0 ∧ s'.toks.length + d ≤ s.toks.length) ∧ s'.L = s.L
theorem Stp.refl (s : PS) : Stp 0 s s := ⟨Nat.le_refl _, fun _ => rfl, fun h => ⟨h, Nat.le_refl _⟩, rfl⟩
theorem Stp.trans {d e : Nat} {a b c : PS} (h : Stp d a b) (k : Stp e b c) : Stp (d + e) a c :=
  ⟨Nat.le_trans k.1 h.1, fun hx => by have := h.2.1 hx; subst this; exact k.2.1 hx, fun hx => by
    obtain ⟨h1, h2⟩ := k.2.2.1 hx
    obtain ⟨h3, h4⟩ := h.2.2.1 h1
    exact ⟨h3, by omega⟩, k.2.2.2.trans h.2.2.2⟩
theorem Stp.mono {d e : Nat} {a b : PS} (h : Stp d a b) (he : e ≤ d) : Stp e a b := ⟨h.1, h.2.1, fun hx => ⟨(h.2.2.1 hx).1, by have := (h.2.2.1 hx).2; omega⟩, h.2.2.2⟩
theorem fail_stp (s : PS) (e : Int) (he : e ≠ 0) (d : Nat) : Stp d s (s.fail e) := by
  unfold PS.fail
  split
  · rename_i hx
    exact ⟨Nat.le_refl _, fun h => absurd hx h, fun h => absurd h he, rfl⟩
  · rename_i hx
    exact ⟨Nat.le_refl _, fun _ => rfl, fun h => absurd h hx, rfl⟩
theorem next_cases (s : PS) (k : Nat) : (∃ t r, s.x = 0 ∧ s.toks = t :: r ∧ t.kind = k ∧ s.next k = (some t.text, s)) ∨ (∃ s', s.next k = (none, s') ∧ ∀ d, Stp d s s') := by
  unfold PS.next
  split
  · rename_i hx
    exact .inr ⟨s, rfl, fun d => ⟨Nat.le_refl _, fun _ => rfl, fun h => absurd h hx, rfl⟩⟩
  · rename_i hx
    have hx : s.x = 0 := by simpa using hx
    split
    · exact .inr ⟨_, rfl, fun d => ⟨Nat.le_refl _, fun h => absurd hx h, fun h => absurd (show (18 : Int) = 0 from h) (by decide), rfl⟩⟩
    · rename_i t r e
      split
      · rename_i hk
        exact .inl ⟨t, r, hx, e, hk, rfl⟩
      · exact .inr ⟨_, rfl, fun d => ⟨Nat.le_refl _, fun h => absurd hx h, fun h => absurd (show (2 : Int) = 0 from h) (by decide), rfl⟩⟩
theorem drop1_stp {s : PS} {t : Tkn} {r : List Tkn} (hx : s.x = 0) (e : s.toks = t :: r) : Stp 1 s s.drop1 := by
  refine ⟨?_, fun h => absurd hx h, fun _ => ⟨hx, ?_⟩, rfl⟩
  · show (s.toks.drop 1).length ≤ _
    simp
  · show (s.toks.drop 1).length + 1 ≤ _
    rw [e]; simp
theorem word_stp (s : PS) : Stp 1 s s.word.2 := by
  unfold PS.word
  rcases next_cases s 0 with ⟨t, r, hx, e, _, h⟩ | ⟨s', h, hs⟩
  · rw [h]; exact drop1_stp hx e
  · rw [h]; exact hs 1
theorem expect_stp (s : PS) (k : Nat) (t : List UInt8) : Stp 1 s (s.expect k t) := by
  unfold PS.expect
  rcases next_cases s k with ⟨t0, r, hx, e, _, h⟩ | ⟨s', h, hs⟩
  · rw [h]
    show Stp 1 s (if t0.text = t then s.drop1 else s.fail 2)
    split
    · exact drop1_stp hx e
    · exact fail_stp s 2 (by decide) 1
  · rw [h]; exact hs 1
theorem number_stp (s : PS) : Stp 1 s s.number.2 := by
  unfold PS.number
  rcases next_cases s 1 with ⟨t0, r, hx, e, _, h⟩ | ⟨s', h, hs⟩
  · rw [h]
    show Stp 1 s (if valX t0.text ≠ 0 then _ else _ : Rat × PS).2
    split
    · rename_i hv
      exact fail_stp s _ hv 1
    · exact drop1_stp hx e
  · rw [h]; exact hs 1
theorem mark_stp (s : PS) : Stp 4 s s.mark.2 := (((word_stp s).trans (number_stp _)).trans (number_stp _)).trans (expect_stp _ _ _)
theorem word_nm {s : PS} (h : ∀ t ∈ s.toks, NmL t.text) : NmL s.word.1 := by
  unfold PS.word
  rcases next_cases s 0 with ⟨t, r, hx, e, _, h1⟩ | ⟨s', h1, _⟩
  · rw [h1]; exact h t (by rw [e]; simp)
  · rw [h1]; show ([] : List UInt8).length < _; decide
theorem marks_x {f : Nat} {s : PS} {l : List MarkL} (h : s.x ≠ 0) : PS.marks f s l = (l, s) := by
  cases f
  · rfl
  · exact if_pos h
theorem marks_end {f : Nat} {s : PS} {l : List MarkL} (hf : 0 < f) (h : s.x = 0) (hs : s.signHead = true) : PS.marks f s l = (l, s.expect 2 [125]) := by
  obtain ⟨f, rfl⟩ : ∃ g, f = g + 1 := ⟨f - 1, by omega⟩
  show (if s.x ≠ 0 then _ else if s.signHead then _ else _) = _
  rw [if_neg (by simp [h]), if_pos hs]
theorem marks_step {f : Nat} {s : PS} {l : List MarkL} (hf : 0 < f) (h : s.x = 0) (hs : s.signHead = false) : PS.marks f s l = PS.marks (f - 1) s.mark.2 (l ++ [s.mark.1]) := by
  obtain ⟨f, rfl⟩ : ∃ g, f = g + 1 := ⟨f - 1, by omega⟩
  show (if s.x ≠ 0 then _ else if s.signHead then _ else _) = _
  rw [if_neg (by simp [h]), if_neg (by simp [hs])]
  rfl
theorem marks_stp : ∀ (f : Nat) (s : PS) (l : List MarkL), Stp 0 s (PS.marks f s l).2
  | 0, s, _ => Stp.refl s
  | f + 1, s, l => by
    by_cases h : s.x = 0
    · cases hs : s.signHead
      · rw [marks_step (by omega) h hs]
        exact ((mark_stp s).trans (marks_stp f _ _)).mono (by omega)
      · rw [marks_end (by omega) h hs]
        exact (expect_stp _ _ _).mono (by omega)
    · rw [marks_x h]; exact Stp.refl s
theorem body_stp (s : PS) : Stp 2 s s.body.2 := (((word_stp s).trans (expect_stp _ _ _)).trans (marks_stp _ _ _)).mono (by omega)
theorem named_stp (s : PS) (only : Int) : Stp 1 s (s.named only).2 := by
  unfold PS.named
  simp only
  split
  · rename_i hx
    exact word_stp s
  · split
    · split
      · exact ((word_stp s).trans (fail_stp _ 7 (by decide) 0)).mono (by omega)
      · exact word_stp s
    · exact ((word_stp s).trans (fail_stp _ 5 (by decide) 0)).mono (by omega)
theorem full_stp (s : PS) (only : Int) : Stp 3 s (s.full only).2.2 := by
  have h := ((named_stp s only).trans (expect_stp _ 2 [46])).trans (word_stp _)
  unfold PS.full
  simp only
  split
  · exact h
  · split
    · exact h
    · exact (h.trans (fail_stp _ 5 (by decide) 0)).mono (by omega)
theorem joint_len (s : PS) (b : Bool) : (s.joint b).toks.length ≤ s.toks.length ∧ ((s.joint b).x = 0 → s.x = 0) := by
  have h0 := word_stp s
  have h1 := full_stp s.word.2 (-1)
  unfold PS.joint
  cases b
  · simp only [Bool.false_eq_true, if_false]
    generalize s.word.2.full (-1) = fa at h1 ⊢
    have h2 := full_stp fa.2.2 (-1)
    generalize fa.2.2.full (-1) = fb at h2 ⊢
    have h := ((h0.trans h1).trans h2).trans (expect_stp fb.2.2 2 [59])
    exact ⟨h.1, fun hx => (h.2.2.1 hx).1⟩
  · simp only [if_true]
    generalize s.word.2.full (-1) = fa at h1 ⊢
    have h2 := full_stp fa.2.2 (-1)
    generalize fa.2.2.full (-1) = fb at h2 ⊢
    have h4 := full_stp fb.2.2 fb.1
    generalize fb.2.2.full fb.1 = ft at h4 ⊢
    have h := (((h0.trans h1).trans h2).trans h4).trans (expect_stp ft.2.2 2 [59])
    exact ⟨h.1, fun hx => (h.2.2.1 hx).1⟩
theorem driver_len (s : PS) : s.driver.toks.length ≤ s.toks.length ∧ (s.driver.x = 0 → s.x = 0) := by
  have h := ((word_stp s).trans (named_stp _ (-1))).trans (expect_stp _ 2 [59])
  unfold PS.driver
  exact ⟨h.1, fun hx => (h.2.2.1 hx).1⟩
theorem item_len (s : PS) : s.item.toks.length ≤ s.toks.length ∧ (s.item.x = 0 → s.item.toks.length + 1 ≤ s.toks.length) := by
  have hw := word_stp s
  have key : ∀ s' : PS, s'.toks.length ≤ s.word.2.toks.length → (s'.x = 0 → s.word.2.x = 0) → s'.toks.length ≤ s.toks.length ∧ (s'.x = 0 → s'.toks.length + 1 ≤ s.toks.length) := by
    intro s' h1 h2
    refine ⟨Nat.le_trans h1 hw.1, fun hx => ?_⟩
    have := (hw.2.2.1 (h2 hx)).2
    omega
  unfold PS.item
  split
  · have h := body_stp s.word.2
    exact key _ h.1 (fun hx => (h.2.2.1 hx).1)
  · split
    · have h := joint_len s.word.2 false
      exact key _ h.1 h.2
    · split
      · have h := joint_len s.word.2 true
        exact key _ h.1 h.2
      · split
        · have h := driver_len s.word.2
          exact key _ h.1 h.2
        · have h := fail_stp s.word.2 2 (by decide) 0
          exact key _ h.1 (fun hx => (h.2.2.1 hx).1)
theorem items_end {f : Nat} {s : PS} (h : ¬ (s.x = 0 ∧ s.toks ≠ [])) : PS.items f s = s := by
  cases f
  · rfl
  · exact if_neg h
theorem items_step {f : Nat} {s : PS} (hf : 0 < f) (h : s.x = 0 ∧ s.toks ≠ []) : PS.items f s = PS.items (f - 1) s.item := by
  obtain ⟨f, rfl⟩ : ∃ g, f = g + 1 := ⟨f - 1, by omega⟩
  exact if_pos h
end Go.Proofs.YtoiijifnfdgfpaaGreatDoor

/- Reading what was printed, plain: the tokens of a linkage. -/
namespace Go.Proofs.YtoiijifnfdgfpaaGreatDoor
open Go Go.RowKit Bn
attribute [local go_sem ↓] Go.wp_at_zero Go.wp_at_succ
def kt (l : List Tkn) : List (Nat × List UInt8) := l.map fun t => (t.kind, t.text)
structure AtK (s : PS) (K : List (Nat × List UInt8)) (L : LinkL) : Prop where
  x : s.x = 0
  k : kt s.toks = K
  l : s.L = L
theorem AtK.head {s : PS} {k : Nat} {t : List UInt8} {K : List (Nat × List UInt8)} {L : LinkL} (h : AtK s ((k, t) :: K) L) : ∃ u r, s.toks = u :: r ∧ u.kind = k ∧ u.text = t ∧ kt r = K := by
  have h1 := h.k
  unfold kt at h1
  cases e : s.toks with
  | nil => rw [e] at h1; cases h1
  | cons u r =>
    rw [e, List.map_cons] at h1
    injection h1 with h2 h3
    injection h2 with h4 h5
    exact ⟨u, r, rfl, h4, h5, h3⟩
theorem AtK.next {s : PS} {k : Nat} {t : List UInt8} {K : List (Nat × List UInt8)} {L : LinkL} (h : AtK s ((k, t) :: K) L) : s.next k = (some t, s) := by
  obtain ⟨u, r, e, h1, h2, _⟩ := h.head
  unfold PS.next
  rw [if_neg (by rw [h.x]; simp), e]
  show (if u.kind = k then (some u.text, s) else _) = _
  rw [if_pos h1, h2]
theorem AtK.drop {s : PS} {p : Nat × List UInt8} {K : List (Nat × List UInt8)} {L : LinkL} (h : AtK s (p :: K) L) : AtK s.drop1 K L := by
  obtain ⟨u, r, e, _, _, h3⟩ := AtK.head (k := p.1) (t := p.2) h
  refine ⟨h.x, ?_, h.l⟩
  show kt (s.toks.drop 1) = K
  rw [e]; exact h3
theorem AtK.word {s : PS} {t : List UInt8} {K : List (Nat × List UInt8)} {L : LinkL} (h : AtK s ((0, t) :: K) L) : s.word.1 = t ∧ AtK s.word.2 K L := by
  unfold PS.word
  rw [h.next]
  exact ⟨rfl, h.drop⟩
theorem AtK.expect {s : PS} {k : Nat} {t : List UInt8} {K : List (Nat × List UInt8)} {L : LinkL} (h : AtK s ((k, t) :: K) L) : AtK (s.expect k t) K L := by
  unfold PS.expect
  rw [h.next]
  show AtK (if t = t then s.drop1 else s.fail 2) K L
  rw [if_pos rfl]
  exact h.drop
theorem AtK.number {s : PS} {t : List UInt8} {K : List (Nat × List UInt8)} {L : LinkL} (h : AtK s ((1, t) :: K) L) (hv : valX t = 0) : s.number.1 = valQ t ∧ AtK s.number.2 K L := by
  unfold PS.number
  rw [h.next]
  show (if valX t ≠ 0 then (0, s.fail (valX t)) else (valQ t, s.drop1) : Rat × PS).1 = _ ∧ AtK (if valX t ≠ 0 then (0, s.fail (valX t)) else (valQ t, s.drop1) : Rat × PS).2 K L
  rw [if_neg (by rw [hv]; simp)]
  exact ⟨rfl, h.drop⟩
/-! Texts of numbers. -/
theorem itoa_sg (z : Int) : ∃ m D, isD D ∧ Lib.itoa z = sg m D ∧ sgI m (decVal D) = z := by
  obtain ⟨h1, h2⟩ := itoa_ok z
  generalize Lib.itoa z = s at h1 h2 ⊢
  refine ⟨headM s, tailS s, ?_, ?_, ?_⟩
  · unfold okZ at h1
    rw [Bool.and_eq_true, Bool.and_eq_true, decide_eq_true_eq] at h1
    exact ⟨h1.1.1, h1.1.2⟩
  · unfold headM tailS sg
    split <;> split <;> simp_all
  · unfold valZ at h2
    unfold sgI
    exact h2
theorem sg_uniq {m m' : Bool} {D D' r r' : List UInt8} (h : isD D) (h' : isD D') (e : sg m (D ++ r) = sg m' (D' ++ r')) : m = m' ∧ D ++ r = D' ++ r' := by
  obtain ⟨a1, a2⟩ := headM_sg (m := m) (r := r) h
  obtain ⟨b1, b2⟩ := headM_sg (m := m') (r := r') h'
  rw [e] at a1 a2
  exact ⟨a1.symm.trans b1, a2.symm.trans b2⟩
theorem rat_form (q : Rat) : ∃ m D t, isD D ∧ ratText q = sg m (D ++ t) ∧ ((t = [] ∧ q = ((sgI m (decVal D) : Int) : Rat)) ∨ ∃ E, isD E ∧ t = 47 :: E ∧ decVal E ≠ 0 ∧ q = Rat.divInt (sgI m (decVal D)) (decVal E)) := by
  obtain ⟨m, D, hD, e1, e2⟩ := itoa_sg q.num
  by_cases hd : q.den = 1
  · refine ⟨m, D, [], hD, ?_, .inl ⟨rfl, ?_⟩⟩
    · rw [ratText_1 hd, e1, List.append_nil]
    · rw [e2]; exact Rat.ext (by simp) (by simp [hd])
  · obtain ⟨m', E, hE, e3, e4⟩ := itoa_sg (q.den : Int)
    have hp : 0 < q.den := q.den_pos
    have hm' : m' = false := by
      cases m'
      · rfl
      · unfold sgI at e4
        rw [if_pos rfl] at e4
        omega
    subst hm'
    have e5 : decVal E = q.den := by
      unfold sgI at e4
      rw [if_neg (by decide)] at e4
      omega
    refine ⟨m, D, 47 :: E, hD, ?_, .inr ⟨E, hE, rfl, by omega, ?_⟩⟩
    · rw [ratText_2 hd, e1, e3]
      cases m <;> rfl
    · rw [e2, e5, Rat.divInt_ofNat]; exact (Rat.mkRat_self q).symm
theorem tail_e {e : List UInt8} (he : ∀ c t, e = c :: t → c = 32 ∨ c = 59) : tailN e = 0 ∧ badEnd e = false ∧ ∀ c t, e = c :: t → isDg c = false := by
  cases e with
  | nil => exact ⟨rfl, rfl, fun c t h => by cases h⟩
  | cons c t =>
    rcases he c t rfl with rfl | rfl
    · refine ⟨?_, rfl, fun c t h => by injection h with h _; subst h; decide⟩
      rw [tailN, show ((32 : UInt8) == 46 || (32 : UInt8) == 47) = false from by decide]; rfl
    · refine ⟨?_, rfl, fun c t h => by injection h with h _; subst h; decide⟩
      rw [tailN, show ((59 : UInt8) == 46 || (59 : UInt8) == 47) = false from by decide]; rfl
theorem num_app {m : Bool} {D t e : List UInt8} (hD : isD D) (ht : t = [] ∨ ∃ E, isD E ∧ t = 47 :: E) (he : ∀ c t, e = c :: t → c = 32 ∨ c = 59) : numN (sg m (D ++ t) ++ e) = (sg m (D ++ t)).length := by
  obtain ⟨t0, _, td⟩ := tail_e he
  have hDp : 0 < D.length := List.length_pos_iff.2 hD.1
  have hte : ∀ c r, t ++ e = c :: r → isDg c = false := by
    rcases ht with rfl | ⟨E, _, rfl⟩
    · exact td
    · intro c r h; injection h with h _; subst h; decide
  have htl : tailN (t ++ e) = t.length := by
    rcases ht with rfl | ⟨E, hE, rfl⟩
    · exact t0
    · have hE1 : digN (E ++ e) = E.length := by
        unfold digN
        rw [tw_app e hE.2 td]
      have hEp : 0 < E.length := List.length_pos_iff.2 hE.1
      rw [List.cons_append, tailN, hE1, show ((47 : UInt8) == 46 || (47 : UInt8) == 47) = true from by decide, Bool.true_and, if_pos (by simpa using hEp), List.length_cons]
      omega
  have hdig : digN (D ++ (t ++ e)) = D.length := by
    unfold digN
    rw [tw_app (t ++ e) hD.2 hte]
  have key : ∀ s : List UInt8, minN s = (if m then 1 else 0) → s.drop (minN s) = D ++ (t ++ e) → numN s = (if m then 1 else 0) + D.length + t.length := by
    intro s h1 h2
    unfold numN
    rw [h2, hdig, if_neg (by omega), ← List.drop_drop, h2, List.drop_left, htl, h1]
  have := key (sg m (D ++ t) ++ e) ?_ ?_
  · rw [this]
    unfold sg
    cases m <;> simp <;> omega
  · cases m
    · obtain ⟨c, r, rfl, hc⟩ := isD_head hD
      have h45 : c ≠ 45 := by rintro rfl; exact absurd hc (by decide)
      show minN (c :: (r ++ t ++ e)) = 0
      unfold minN
      split
      · rename_i h1; injection h1 with h2; exact absurd h2 h45
      · rfl
    · rfl
  · cases m
    · obtain ⟨c, r, rfl, hc⟩ := isD_head hD
      have h45 : c ≠ 45 := by rintro rfl; exact absurd hc (by decide)
      have : minN (sg false (c :: r ++ t) ++ e) = 0 := by
        show minN (c :: (r ++ t ++ e)) = 0
        unfold minN
        split
        · rename_i h1; injection h1 with h2; exact absurd h2 h45
        · rfl
      rw [this]
      show c :: r ++ t ++ e = _
      rw [List.append_assoc]
    · show D ++ t ++ e = _
      rw [List.append_assoc]
theorem val_rat {q : Rat} (hl : (ratText q).length ≤ 60) : valX (ratText q) = 0 ∧ valQ (ratText q) = q := by
  obtain ⟨m, D, t, hD, hs, hq⟩ := rat_form q
  have h := val_out (ratText q)
  have hn : numN (ratText q) = (ratText q).length := by
    have := num_app (m := m) (D := D) (t := t) (e := []) hD (by rcases hq with ⟨h, _⟩ | ⟨E, hE, h, _⟩; exact .inl h; exact .inr ⟨E, hE, h⟩) (fun c t h => by cases h)
    rw [List.append_nil] at this
    rw [hs]; exact this
  have hpos : (ratText q).length ≠ 0 := by
    obtain ⟨c, r, e, _⟩ := isD_head hD
    rw [hs, e]
    cases m <;> simp [sg]
  generalize valX (ratText q) = x at h ⊢
  generalize valQ (ratText q) = y at h ⊢
  have no47 : ∀ {F : List UInt8}, isD F → (47 : UInt8) ∉ F := fun h => isD_no h (by decide)
  have no46 : ∀ {F : List UInt8}, isD F → (46 : UInt8) ∉ F := fun h => isD_no h (by decide)
  cases h with
  | large h1 _ _ => omega
  | bad _ hb _ _ =>
    rcases hb with hb | hb
    · exact absurd hb hpos
    · exact absurd hn hb
  | whole m' D' _ _ hD' hs' hx hy =>
    have e0 := hs.symm.trans hs'
    rw [show D' = D' ++ [] by simp] at e0
    obtain ⟨rfl, e⟩ := sg_uniq hD hD' e0
    rcases hq with ⟨rfl, hq⟩ | ⟨E, hE, rfl, h0, hq⟩
    · rw [List.append_nil, List.append_nil] at e
      subst e
      exact ⟨hx, hy.trans hq.symm⟩
    · exfalso
      rw [List.append_nil] at e
      exact no47 hD' (e ▸ List.mem_append_right _ (List.mem_cons_self))
  | quo0 m' D' E' _ _ hD' hE' hs' h0' _ _ =>
    exfalso
    have e0 := hs.symm.trans hs'
    obtain ⟨rfl, e⟩ := sg_uniq hD hD' e0
    rcases hq with ⟨rfl, hq⟩ | ⟨E, hE, rfl, h0, hq⟩
    · rw [List.append_nil] at e
      exact no47 hD (e ▸ List.mem_append_right _ (List.mem_cons_self))
    · obtain ⟨_, e2⟩ := cut_uniq (no47 hD) (no47 hD') e
      subst e2
      exact h0 h0'
  | quo m' D' E' _ _ hD' hE' hs' h0' hx hy =>
    have e0 := hs.symm.trans hs'
    obtain ⟨rfl, e⟩ := sg_uniq hD hD' e0
    rcases hq with ⟨rfl, hq⟩ | ⟨E, hE, rfl, h0, hq⟩
    · exfalso
      rw [List.append_nil] at e
      exact no47 hD (e ▸ List.mem_append_right _ (List.mem_cons_self))
    · obtain ⟨e1, e2⟩ := cut_uniq (no47 hD) (no47 hD') e
      subst e1 e2
      exact ⟨hx, hy.trans hq.symm⟩
  | dot m' D' E' _ _ hD' hE' hs' hx hy =>
    exfalso
    have e0 := hs.symm.trans hs'
    obtain ⟨rfl, e⟩ := sg_uniq hD hD' e0
    have h46 : (46 : UInt8) ∈ D ++ t := e ▸ List.mem_append_right _ (List.mem_cons_self)
    rcases List.mem_append.1 h46 with h | h
    · exact no46 hD h
    · rcases hq with ⟨rfl, hq⟩ | ⟨E, hE, rfl, h0, hq⟩
      · cases h
      · rcases List.mem_cons.1 h with h | h
        · exact absurd h (by decide)
        · exact no46 hE h
/-! Tokens of a text. -/
def Spl (s : List UInt8) (K : List (Nat × List UInt8)) : Prop := ∀ line col, Bn.shape (tk s line col) = some K
theorem Spl.nil : Spl [] [] := fun _ _ => rfl
theorem Spl.line {s : List UInt8} {K : List (Nat × List UInt8)} (h : Spl s K) : Spl (10 :: s) K := fun line col => by rw [tk_line]; exact h _ _
theorem Spl.blank {s : List UInt8} {K : List (Nat × List UInt8)} (h : Spl s K) : Spl (32 :: s) K := fun line col => by rw [tk_blank (by decide)]; exact h _ _
theorem Spl.tok {x s : List UInt8} {k : Nat} {K : List (Nat × List UInt8)} (h0 : x ≠ []) (hf : firstT (x ++ s) = .ok k x.length) (h : Spl s K) : Spl (x ++ s) ((k, x) :: K) := fun line col => by
  obtain ⟨c, r, rfl⟩ := List.exists_cons_of_ne_nil h0
  rw [List.cons_append] at hf
  rw [List.cons_append, tk_tok hf, shape_push, ← List.cons_append, List.drop_left, List.take_left, h]
  rfl
theorem Spl.sign {c : UInt8} {s : List UInt8} {K : List (Nat × List UInt8)} (hc : isSgn c = true) (h : Spl s K) : Spl (c :: s) ((2, [c]) :: K) :=
  Spl.tok (x := [c]) (by simp) (by show firstT (c :: s) = _; unfold firstT; simp only [hc, if_true]; rfl) h
theorem let_not_sgn {c : UInt8} (h : isLet c = true) : isSgn c = false := by
  cases hs : isSgn c
  · rfl
  · unfold isSgn at hs
    simp only [Bool.or_eq_true, beq_iff_eq] at hs
    rcases hs with ((e | e) | e) | e <;> subst e <;> exact absurd h (by decide)
theorem Spl.word {x s : List UInt8} {K : List (Nat × List UInt8)} (hx : nameOk x = true) (hs : ∀ c t, s = c :: t → isPart c = false) (h : Spl s K) : Spl (x ++ s) ((0, x) :: K) := by
  have ha := name_all hx
  unfold nameOk at hx
  simp only [Bool.and_eq_true, decide_eq_true_eq] at hx
  obtain ⟨⟨h1, h2⟩, h3⟩ := hx
  refine Spl.tok ha.1 ?_ h
  cases x with
  | nil => exact absurd rfl ha.1
  | cons c t =>
    have hl : isLet c = true := by
      rw [wordN] at h1
      split at h1
      · assumption
      · omega
    have ht : t.all isPart = true := List.all_eq_true.2 fun d hd => ha.2 d (by simp [hd])
    have hw : wordN (c :: (t ++ s)) = (c :: t).length := by
      rw [wordN, if_pos hl, tw_app s ht hs, List.length_cons]; omega
    show firstT (c :: (t ++ s)) = _
    unfold firstT
    simp only [let_not_sgn hl, hw, Bool.false_eq_true, if_false]
    rw [if_pos (by simp), if_neg (by omega)]
theorem dg_not {c : UInt8} (h : isDg c = true ∨ c = 45) : isSgn c = false ∧ isLet c = false := by
  rcases h with h | rfl
  · unfold isDg at h
    simp only [Bool.and_eq_true, decide_eq_true_eq] at h
    constructor
    · cases hs : isSgn c
      · rfl
      · unfold isSgn at hs
        simp only [Bool.or_eq_true, beq_iff_eq] at hs
        rcases hs with ((e | e) | e) | e <;> subst e <;> exact absurd h (by decide)
    · unfold isLet
      simp only [Bool.or_eq_false_iff, Bool.and_eq_false_iff, decide_eq_false_iff_not]
      omega
  · decide
theorem Spl.num {q : Rat} {s : List UInt8} {K : List (Nat × List UInt8)} (hl : (ratText q).length ≤ 60) (hs : ∀ c t, s = c :: t → c = 32 ∨ c = 59) (h : Spl s K) : Spl (ratText q ++ s) ((1, ratText q) :: K) := by
  obtain ⟨m, D, t, hD, e, hq⟩ := rat_form q
  have hn : numN (ratText q ++ s) = (ratText q).length := by
    rw [e]
    exact num_app hD (by rcases hq with ⟨h, _⟩ | ⟨E, hE, h, _⟩; exact .inl h; exact .inr ⟨E, hE, h⟩) hs
  have hc : ∃ c r, ratText q = c :: r ∧ (isDg c = true ∨ c = 45) := by
    obtain ⟨c, r, e2, h2⟩ := isD_head hD
    rw [e, e2]
    cases m
    · exact ⟨c, r ++ t, rfl, .inl h2⟩
    · exact ⟨45, _, rfl, .inr rfl⟩
  obtain ⟨c, r, e3, h3⟩ := hc
  obtain ⟨h4, h5⟩ := dg_not h3
  refine Spl.tok (by rw [e3]; simp) ?_ h
  rw [e3] at hn hl ⊢
  rw [List.cons_append] at hn ⊢
  have hw : wordN (c :: (r ++ s)) = 0 := by rw [wordN, h5]; rfl
  unfold firstT
  simp only [h4, hw, hn, Bool.false_eq_true, if_false]
  rw [if_neg (by omega), if_neg (by simp), if_neg (by omega), ← List.cons_append, List.drop_left, (tail_e hs).2.1]
  rfl
end Go.Proofs.YtoiijifnfdgfpaaGreatDoor

/- Linkages in memory: a store into a variable that holds no linkage yet leaves them. -/
namespace Go.Proofs.YtoiijifnfdgfpaaGreatDoor
open Go Go.RowKit Bn
attribute [local go_sem ↓] Go.wp_at_zero Go.wp_at_succ
def ZeroAt (w : World) (g0 : Nat) : Prop := ∀ o v, w.cell? ⟨g0, o, none⟩ = some v → v = strV [] ∨ v = .slice none 0 0 ∨ v = .bool false
def Off (g0 : Nat) (w w' : World) : Prop := (∀ g, g ≠ g0 → w'.heap[g]? = w.heap[g]?) ∧ w'.heap.size = w.heap.size
theorem Off.refl (g0 : Nat) (w : World) : Off g0 w w := ⟨fun _ _ => rfl, rfl⟩
theorem Off.set {g0 : Nat} {w w' : World} (h : Off g0 w w') (i : Nat) (u : Value) : Off g0 w (w'.setCell ⟨g0, i, none⟩ u) :=
  ⟨fun g hg => (Below.heap_setCell w' ⟨g0, i, none⟩ u g hg).trans (h.1 g hg), by simp [World.setCell, h.2]⟩
section
variable {g0 : Nat} {w w' : World}
theorem ZeroAt.str {g o : Nat} {s : List UInt8} (z : ZeroAt w g0) (h : w.cell? ⟨g, o, none⟩ = some (strV s)) (hs : s ≠ []) : g ≠ g0 := by
  rintro rfl
  rcases z o _ h with e | e | e
  · injection e with e
    injection e with e
    injection e with e
    exact hs e
  · cases e
  · cases e
theorem cell_off {g o : Nat} (hg : g ≠ g0) (h : Off g0 w w') : w'.cell? ⟨g, o, none⟩ = w.cell? ⟨g, o, none⟩ := by
  unfold World.cell?
  rw [h.1 g hg]
theorem Wd.off {A : Option Addr} {n c : Nat} {l : List Nat} (x : Wd w A n c l) (z : ZeroAt w g0) (h : Off g0 w w') : Wd w' A n c l := by
  refine ⟨x.1, x.2.1, x.2.2.1, fun hn => ?_⟩
  obtain ⟨g, o, cur, fr, e, hr, hc⟩ := x.2.2.2 hn
  have hne : g ≠ g0 := by
    rintro rfl
    have h0 := hc 0 hn
    rw [← hr.cell] at h0
    rcases z _ _ h0 with e | e | e <;> cases e
  exact ⟨g, o, cur, fr, e, hr.same (h.1 g hne), hc⟩
theorem QD.off {b : Bool} {A D : Option Addr} {n c m e k : Nat} {r : RD} (x : QD w b A n c D m e r k) (z : ZeroAt w g0) (h : Off g0 w w') : QD w' b A n c D m e r k := ⟨x.1, x.2.1.off z h, x.2.2.1.off z h, x.2.2.2⟩
theorem RatAt.off {g o k : Nat} {r : RD} (hg : g ≠ g0) (x : RatAt w g o r k) (z : ZeroAt w g0) (h : Off g0 w w') : RatAt w' g o r k := by
  obtain ⟨b, A, n, c, D, m, e, h1, h2, h3, h4⟩ := x
  exact ⟨b, A, n, c, D, m, e, (cell_off hg h).trans h1, (cell_off hg h).trans h2, (cell_off hg h).trans h3, h4.off z h⟩
theorem MkAt.off {g o k : Nat} {m : MarkL} (hm : m.name ≠ []) (x : MkAt k w g o m) (z : ZeroAt w g0) (h : Off g0 w w') : MkAt k w' g o m := by
  have hg := z.str x.1 hm
  exact ⟨(cell_off hg h).trans x.1, x.2.1.off hg z h, x.2.2.1.off hg z h, x.2.2.2⟩
theorem SlS.off {α : Type} {P : World → Nat → Nat → α → Prop} {s : Nat} {A : Option Addr} {n c : Nat} {l : List α} (x : SlS P s w A n c l) (hP : ∀ g o a, a ∈ l → P w g o a → P w' g o a) (h : Off g0 w w') : SlS P s w' A n c l := by
  refine ⟨x.1, x.2.1, fun hn => ?_⟩
  obtain ⟨g, o, e, hg, h3⟩ := x.2.2 hn
  exact ⟨g, o, e, by rw [h.2]; exact hg, fun i a ha => hP _ _ _ (List.mem_of_getElem? ha) (h3 i a ha)⟩
theorem SlS.offM {k : Nat} {A : Option Addr} {n c : Nat} {l : List MarkL} (hm : ∀ m ∈ l, m.name ≠ []) (x : SlS (MkAt k) 7 w A n c l) (z : ZeroAt w g0) (h : Off g0 w w') : SlS (MkAt k) 7 w' A n c l := x.off (fun _ _ a ha y => y.off (hm a ha) z h) h
theorem BdAt.off {g o k : Nat} {b : BodyL} (hb : b.name ≠ []) (hm : ∀ m ∈ b.pts, m.name ≠ []) (x : BdAt k w g o b) (z : ZeroAt w g0) (h : Off g0 w w') : BdAt k w' g o b := by
  obtain ⟨A, n, c, h1, h2, h3, h4⟩ := x
  have hg := z.str h1 hb
  exact ⟨A, n, c, (cell_off hg h).trans h1, (cell_off hg h).trans h2, h3.offM hm z h, h4⟩
theorem JtAt.off {g o : Nat} {j : JointL} (hj : j.name ≠ []) (x : JtAt w g o j) (z : ZeroAt w g0) (h : Off g0 w w') : JtAt w' g o j := by
  have hg := z.str x.1 hj
  exact ⟨(cell_off hg h).trans x.1, (cell_off hg h).trans x.2.1, (cell_off hg h).trans x.2.2.1, (cell_off hg h).trans x.2.2.2.1, (cell_off hg h).trans x.2.2.2.2.1, (cell_off hg h).trans x.2.2.2.2.2.1, (cell_off hg h).trans x.2.2.2.2.2.2.1, x.2.2.2.2.2.2.2⟩
theorem DrAt.off {g o : Nat} {d : DriverL} (hd : d.name ≠ []) (x : DrAt w g o d) (z : ZeroAt w g0) (h : Off g0 w w') : DrAt w' g o d := by
  have hg := z.str x.1 hd
  exact ⟨(cell_off hg h).trans x.1, (cell_off hg h).trans x.2.1, x.2.2⟩
structure NmAll (L : LinkL) : Prop where
  bodies : ∀ b ∈ L.bodies, b.name ≠ [] ∧ ∀ m ∈ b.pts, m.name ≠ []
  joints : ∀ j ∈ L.joints, j.name ≠ []
  drivers : ∀ d ∈ L.drivers, d.name ≠ []
theorem LkS.off {k : Nat} {A B C : Option Addr} {n c p d q e : Nat} {L : LinkL} (hL : NmAll L) (x : LkS k w A n c B p d C q e L) (z : ZeroAt w g0) (h : Off g0 w w') : LkS k w' A n c B p d C q e L :=
  ⟨x.name, x.bodies.off (fun _ _ a ha y => y.off (hL.bodies a ha).1 (hL.bodies a ha).2 z h) h, x.joints.off (fun _ _ a ha y => y.off (hL.joints a ha) z h) h, x.drivers.off (fun _ _ a ha y => y.off (hL.drivers a ha) z h) h⟩
theorem Blk.zero {g t : Nat} {cs : Array Value} (x : Blk w g t cs) (h : cs.toList.all (fun v => match v with | .string s => s.data.isEmpty | .slice none 0 0 => true | .bool false => true | _ => false) = true) : ZeroAt w g := by
  intro o v hv
  rw [x.cell] at hv
  have hm : v ∈ cs.toList := by rw [Array.mem_toList_iff]; exact Array.mem_of_getElem? hv
  have := List.all_eq_true.1 h v hm
  split at this
  · rename_i s
    left
    obtain ⟨d⟩ := s
    have e : d = #[] := by simpa using this
    subst e
    rfl
  · exact .inr (.inl rfl)
  · exact .inr (.inr rfl)
  · cases this
end
end Go.Proofs.YtoiijifnfdgfpaaGreatDoor

/- append onto a row of the call's own whose cells, spare ones too, are of a kind: where the new row lies, and that its cells are of that kind too. Worlds that touch blocks of certain types only. -/
namespace Go.Proofs.YtoiijifnfdgfpaaGreatDoor
open Go Go.RowKit Bn
attribute [local go_sem ↓] Go.wp_at_zero Go.wp_at_succ
def OwJ (J : Value → Bool) (w : World) (base : Nat) (e : TypeId) (size : Nat) (v : Value) (n : Nat) (xs : List Value) : Prop :=
  xs.length = n * size ∧
  ((v = .slice none 0 0 ∧ n = 0) ∨
   ∃ g cap cur, v = .slice (some ⟨g, 0, none⟩) n cap ∧ base ≤ g ∧ w.heap[g]? = some (.cells cur e (0, 0)) ∧ n ≤ cap ∧ cap ≤ maxLen ∧ cur.size = cap * size ∧ cur.toList.take (n * size) = xs ∧ cur.toList.all J = true)
theorem OwJ.nil (J : Value → Bool) (w : World) (base : Nat) (e : TypeId) (size : Nat) : OwJ J w base e size (.slice none 0 0) 0 [] := ⟨by simp, .inl ⟨rfl, rfl⟩⟩
section
variable {J : Value → Bool} {w w' : World} {base : Nat} {e : TypeId} {size : Nat} {v : Value} {n : Nat} {xs : List Value}
theorem OwJ.belw (h : OwJ J w base e size v n xs) (hb : Below w.heap.size w w') : OwJ J w' base e size v n xs := by
  refine ⟨h.1, ?_⟩
  rcases h.2 with h1 | ⟨g, cap, cur, h1, h2, h3, h4⟩
  · exact .inl h1
  · exact .inr ⟨g, cap, cur, h1, h2, (hb.block g (lt_of_block h3)).trans h3, h4⟩
theorem OwJ.own (h : OwJ J w base e size v n xs) : w.ownsRow base e size v n xs := by
  refine ⟨h.1, ?_⟩
  rcases h.2 with h1 | ⟨g, cap, cur, h1, h2, h3, h4, h5, h6, h7, _⟩
  · exact .inl h1
  · exact .inr ⟨g, cap, cur, h1, h2, h3, h4, h5, h6, h7⟩
theorem OwJ.at_ (h : OwJ J w base e size v n xs) {g : Nat} (hg : v.ownBlock = some g) : base ≤ g ∧ ∃ cur, w.heap[g]? = some (.cells cur e (0, 0)) ∧ cur.toList.all J = true := by
  rcases h.2 with ⟨rfl, _⟩ | ⟨g', cap, cur, rfl, h2, h3, _, _, _, _, h8⟩
  · cases hg
  · injection hg with hg
    subst hg
    exact ⟨h2, cur, h3, h8⟩
end
section
variable {P : Program} (w : World)
theorem all_zero {J : Value → Bool} {z : Array Value} (hz : z.toList.all J = true) (h0 : 0 < z.size) (n : Nat) : (Builtin.zeroCells z n).toList.all J = true := by
  rw [List.all_eq_true] at hz ⊢
  intro x hx
  unfold Builtin.zeroCells at hx
  rw [Array.mem_toList_iff, Array.mem_map] at hx
  obtain ⟨i, _, rfl⟩ := hx
  have hlt := Nat.mod_lt i h0
  rw [getElem!_pos z _ hlt]
  exact hz _ (by simp)
theorem run_append_J (J : Value → Bool) (base : Nat) (t ty e : TypeId) (i : TypeInfo) (z : Value) (size bytes : Nat) (ht : P.underlying t = some (.slice e)) (hi : P.info? e = some i) (hz : i.zero = some z)
    (hsize : i.size = size) (hby : i.bytes = bytes) (hzs : z.cells.size = size) (hsz : 0 < size) (hJz : z.cells.toList.all J = true)
    (v : Value) (n : Nat) (xs : List Value) (hown : OwJ J w base e size v n xs)
    (a : Addr) (m c : Nat) (news : List Value) (hl : news.length = m * size) (hnews : ∀ j u, news[j]? = some u → w.cell? (a.add j) = some u) (h1 : ∀ u ∈ news, u.oneCell' = true) (hJn : news.all J = true)
    (hm : 0 < m) (h63 : n + m ≤ maxLen) (hbytes : (n + m) * bytes ≤ 140737488355328) (hbase : base ≤ w.heap.size) :
    ∃ g cap w', (Builtin.append_ #[t, t] ty #[v, .slice (some a) m c]).run P w = .ok (.slice (some ⟨g, 0, none⟩) (n + m) cap) w' ∧ OwJ J w' base e size (.slice (some ⟨g, 0, none⟩) (n + m) cap) (n + m) (xs ++ news) ∧
      w.grownBy w' v.ownBlock ∧ (v.ownBlock = some g ∨ g = w.heap.size) := by
  subst hsize
  subst hby
  have hsmall : n + m ≤ 9223372036854775807 := by simp only [maxLen] at h63; omega
  have hlen : (xs ++ news).length = (n + m) * i.size := by rw [List.length_append, hown.1, hl, Nat.add_mul]
  have fresh : ∀ (old : Nat), xs.all J = true →
      OwJ J (w.drew.alloc (.cells (xs.toArray ++ news.toArray ++ Builtin.zeroCells z.cells (grownCap w (n + m) old e - (n + m))) e)) base e i.size (.slice (some ⟨w.heap.size, 0, none⟩) (n + m) (grownCap w (n + m) old e)) (n + m) (xs ++ news) := by
    intro old hx
    have hge := grownCap_ge w (n + m) old e
    refine ⟨hlen, .inr ⟨w.heap.size, _, _, rfl, hbase, heap_alloc_new w.drew _, hge, grownCap_le_maxLen w (n + m) old e h63, ?_, ?_, ?_⟩⟩
    · simp only [Array.size_append, List.size_toArray, size_zeroCells, hzs, hown.1, hl, ← Nat.add_mul]
      congr 1
      omega
    · simp only [Array.toList_append, List.append_assoc]
      rw [← List.append_assoc, ← hlen]
      exact List.take_left
    · simp only [Array.toList_append, List.all_append, hx, hJn, Bool.true_and]
      exact all_zero hJz (by omega) _
  have gb : ∀ (o : Obj) (row : Option Nat), w.grownBy (w.drew.alloc o) row := fun o row => ⟨rfl, rfl, rfl, by simp, fun k hk _ => Below.heap_alloc w.drew o k hk⟩
  rcases hown.2 with ⟨rfl, rfl⟩ | ⟨g, cap, cur, rfl, hbg, hg, hnc, hcm, hcs, htake, hJ⟩
  · have hx : xs = [] := List.eq_nil_of_length_eq_zero (by simpa using hown.1)
    subst hx
    have hr := run_append_nil (P := P) w t ty e i z ht hi hz a m c news hl hnews (by omega) (by omega) (by have hb := hbytes; simp only [Nat.zero_add] at hb; omega)
    have hf := fresh 0 rfl
    simp only [Nat.zero_add, List.nil_append, Array.empty_append] at hf ⊢
    exact ⟨_, _, _, hr, hf, gb _ _, .inr rfl⟩
  · by_cases hroom : n + m ≤ cap
    · have hfit : n * i.size + news.length ≤ cur.size := by rw [hl, hcs, ← Nat.add_mul]; exact Nat.mul_le_mul_right _ hroom
      have hr := run_append_room (P := P) w t ty e i ht hi g n cap cur hg a m c news hl hnews h1 hroom hfit
      refine ⟨g, cap, _, hr, ⟨hlen, .inr ⟨g, cap, _, rfl, hbg, setRow_heap w g cur _ e _ hg, hroom, hcm, ?_, ?_, ?_⟩⟩, ⟨rfl, rfl, rfl, by simp, fun k _ hk => setRow_other w g k _ (fun e => hk (by simp [Value.ownBlock, e]))⟩, .inl rfl⟩
      · simp only [List.size_toArray, List.length_append, List.length_take, List.length_drop, Array.length_toList]
        omega
      · rw [htake, ← hlen]
        exact List.take_left
      · rw [List.all_eq_true] at hJ hJn ⊢
        intro x hx
        rcases List.mem_append.1 hx with hx | hx
        · rcases List.mem_append.1 hx with hx | hx
          · exact hJ x (List.mem_of_mem_take hx)
          · exact hJn x hx
        · exact hJ x (List.mem_of_mem_drop hx)
    · have holds : ∀ j u, xs[j]? = some u → w.cell? ((⟨g, 0, none⟩ : Addr).add j) = some u := hown.own.cells (g := g) rfl
      have hr := run_append_grow (P := P) w t ty e i z ht hi hz ⟨g, 0, none⟩ n cap xs hown.1 holds a m c news hl hnews (by omega) (by omega) (growslice_fits (by omega) hbytes)
      exact ⟨_, _, _, hr, fresh cap (by rw [List.all_eq_true] at hJ ⊢; intro x hx; rw [← htake] at hx; exact hJ x (List.mem_of_mem_take hx)), gb _ _, .inr rfl⟩
theorem wpList_append_J {ops : Array Oper} {rest : List Oper} {o : Oper} {a : Act} {Q : Exit → Act → World → Prop} (hgd : o.guard = none) (J : Value → Bool) (s x : Operand) (t : TypeId)
    (ho : o.op = .call { callee := .builtin .append, args := #[s, x], argTypes := #[t, t] })
    (base : Nat) (e : TypeId) (i : TypeInfo) (z : Value) (size bytes : Nat) (ht : P.underlying t = some (.slice e)) (hi : P.info? e = some i) (hz : i.zero = some z)
    (hsize : i.size = size) (hby : i.bytes = bytes) (hzs : z.cells.size = size) (hsz : 0 < size) (hJz : z.cells.toList.all J = true)
    (v : Value) (n : Nat) (xs : List Value) (hs : a.eval s = v) (hown : OwJ J w base e size v n xs)
    (ad : Addr) (m c : Nat) (news : List Value) (hx : a.eval x = .slice (some ad) m c) (hl : news.length = m * size) (hnews : ∀ j u, news[j]? = some u → w.cell? (ad.add j) = some u) (h1 : ∀ u ∈ news, u.oneCell' = true) (hJn : news.all J = true)
    (hm : 0 < m) (h63 : n + m ≤ maxLen) (hbytes : (n + m) * bytes ≤ 140737488355328) (hbase : base ≤ w.heap.size)
    (h : ∀ g cap w', OwJ J w' base e size (.slice (some ⟨g, 0, none⟩) (n + m) cap) (n + m) (xs ++ news) → w.grownBy w' v.ownBlock → (v.ownBlock = some g ∨ g = w.heap.size) → wpList P ops Q rest (a.put o.dst (.slice (some ⟨g, 0, none⟩) (n + m) cap)) w') : wpList P ops Q (o :: rest) a w :=
  wpList_plain hgd fun _ hK => by
    obtain ⟨g, cap, w', hr, h2, h3, h4⟩ := run_append_J (P := P) w J base t o.type e i z size bytes ht hi hz hsize hby hzs hsz hJz v n xs hown ad m c news hl hnews h1 hJn hm h63 hbytes hbase
    unfold Oper.wp execOp
    simp only [ho, resolve, invoke, builtin, Sem.run_bind, Sem.run_pure, Result.andThen_ok, List.map_toArray, List.map_cons, List.map_nil, hs, hx, hr]
    exact hK _ _ (h g cap w' h2 h3 h4)
end
/-! What touches blocks of certain types only. -/
def isU (v : Value) : Bool := match v with | .int .u32 _ => true | _ => false
def noW (v : Value) : Bool := !isU v
def Tch (T : TypeId → Bool) (w w' : World) : Prop := w.heap.size ≤ w'.heap.size ∧ ∀ (g : Nat) cur t fr, w.heap[g]? = some (.cells cur t fr) → (T t = false ∨ cur.toList.all noW = false) → w'.heap[g]? = some (.cells cur t fr)
section
variable {T : TypeId → Bool} {w w' w2 : World}
theorem Tch.refl (w : World) : Tch T w w := ⟨Nat.le_refl _, fun _ _ _ _ h _ => h⟩
theorem Tch.trans (h : Tch T w w') (k : Tch T w' w2) : Tch T w w2 := ⟨Nat.le_trans h.1 k.1, fun g cur t fr x y => k.2 g cur t fr (h.2 g cur t fr x y) y⟩
theorem Tch.below (h : Below w.heap.size w w') : Tch T w w' := ⟨h.size, fun g _ _ _ x _ => (h.block g (lt_of_block x)).trans x⟩
theorem Tch.more (h : Tch T w w') (k : Below w'.heap.size w' w2) : Tch T w w2 := h.trans (Tch.below k)
theorem Tch.mono {T' : TypeId → Bool} (h : Tch T w w') (hT : ∀ t, T t = true → T' t = true) : Tch T' w w' := ⟨h.1, fun g cur t fr x y => h.2 g cur t fr x (y.imp (fun h => by cases e : T t; rfl; rw [hT t e] at h; cases h) id)⟩
theorem Tch.of_ne {g0 : Nat} {cur : Array Value} {t : TypeId} {fr : Nat × Nat} (hs : w.heap.size ≤ w'.heap.size) (hg : w.heap[g0]? = some (.cells cur t fr)) (hT : T t = true) (hc : cur.toList.all noW = true) (h : ∀ g, g < w.heap.size → g ≠ g0 → w'.heap[g]? = w.heap[g]?) : Tch T w w' := by
  refine ⟨hs, fun g c t' fr' x y => ?_⟩
  by_cases e : g = g0
  · subst e
    rw [hg] at x
    injection x with x
    injection x with x1 x2
    subst x1 x2
    rw [hT, hc] at y
    rcases y with y | y <;> cases y
  · rw [h g (lt_of_block x) e]; exact x
theorem Tch.set {g0 : Nat} {cur : Array Value} {t : TypeId} (hg : Blk w g0 t cur) (hT : T t = true) (hc : cur.toList.all noW = true) (i : Nat) (u : Value) : Tch T w (w.setCell ⟨g0, i, none⟩ u) :=
  Tch.of_ne (by simp [World.setCell]) hg hT hc fun g _ hne => Below.heap_setCell w ⟨g0, i, none⟩ u g hne
theorem Tch.grown {J : Value → Bool} {base : Nat} {e : TypeId} {size : Nat} {v : Value} {n : Nat} {xs : List Value} (hJ : ∀ u, J u = true → noW u = true) (hT : T e = true) (h : OwJ J w base e size v n xs) (hg : w.grownBy w' v.ownBlock) : Tch T w w' := by
  cases hv : v.ownBlock with
  | none => exact ⟨hg.size, fun g _ _ _ x _ => (hg.block g (lt_of_block x) (by rw [hv]; simp)).trans x⟩
  | some g0 =>
    obtain ⟨_, cur, h3, h4⟩ := h.at_ hv
    refine Tch.of_ne hg.size h3 hT ?_ fun g hlt hne => hg.block g hlt (by rw [hv]; simpa using hne)
    rw [List.all_eq_true] at h4 ⊢
    exact fun u hu => hJ u (h4 u hu)
theorem Wd.tch {A : Option Addr} {n c : Nat} {l : List Nat} (x : Wd w A n c l) (h : Tch T w w') : Wd w' A n c l := by
  refine ⟨x.1, x.2.1, x.2.2.1, fun hn => ?_⟩
  obtain ⟨g, o, cur, fr, e, ⟨t, hr, hb⟩, hc⟩ := x.2.2.2 hn
  refine ⟨g, o, cur, fr, e, ⟨t, hr, h.2 g cur t fr hb (.inr ?_)⟩, hc⟩
  have h0 := hc 0 hn
  rw [List.all_eq_false]
  exact ⟨_, by rw [Array.mem_toList_iff]; exact Array.mem_of_getElem? h0, by simp [noW, isU]⟩
theorem QD.tch {b : Bool} {A D : Option Addr} {n c m e k : Nat} {r : RD} (x : QD w b A n c D m e r k) (h : Tch T w w') : QD w' b A n c D m e r k := ⟨x.1, x.2.1.tch h, x.2.2.1.tch h, x.2.2.2⟩
end
end Go.Proofs.YtoiijifnfdgfpaaGreatDoor

/- Linkages that a call builds: rows of things in blocks of their own types. -/
namespace Go.Proofs.YtoiijifnfdgfpaaGreatDoor
open Go Go.RowKit Bn
attribute [local go_sem ↓] Go.wp_at_zero Go.wp_at_succ
def SlT {α : Type} (T0 : TypeId) (P : World → Nat → Nat → α → Prop) (s : Nat) (w : World) (A : Option Addr) (n c : Nat) (l : List α) : Prop :=
  l.length = n ∧ n ≤ c ∧ (0 < n → ∃ g o cur fr, A = some ⟨g, o, none⟩ ∧ w.heap[g]? = some (.cells cur T0 fr) ∧ ∀ i a, l[i]? = some a → P w g (o + i * s) a)
theorem SlT.sl {α : Type} {T0 : TypeId} {P P' : World → Nat → Nat → α → Prop} {s : Nat} {w : World} {A : Option Addr} {n c : Nat} {l : List α} (h : SlT T0 P s w A n c l) (hP : ∀ g o a, P w g o a → P' w g o a) : SlS P' s w A n c l := by
  refine ⟨h.1, h.2.1, fun hn => ?_⟩
  obtain ⟨g, o, cur, fr, e, hb, h3⟩ := h.2.2 hn
  exact ⟨g, o, e, lt_of_block hb, fun i a ha => hP _ _ _ (h3 i a ha)⟩
theorem SlT.nil {α : Type} (T0 : TypeId) (P : World → Nat → Nat → α → Prop) (s : Nat) (w : World) : SlT T0 P s w none 0 0 ([] : List α) := ⟨rfl, Nat.le_refl _, fun h => absurd h (by omega)⟩
section
variable {T : TypeId → Bool} {w w' : World}
theorem SlT.tch {α : Type} {T0 : TypeId} {P : World → Nat → Nat → α → Prop} {s : Nat} {A : Option Addr} {n c : Nat} {l : List α} (x : SlT T0 P s w A n c l) (h : Tch T w w') (hT : T T0 = false) (hP : ∀ g o a, w'.heap[g]? = w.heap[g]? → P w g o a → P w' g o a) : SlT T0 P s w' A n c l := by
  refine ⟨x.1, x.2.1, fun hn => ?_⟩
  obtain ⟨g, o, cur, fr, e, hb, h3⟩ := x.2.2 hn
  have hb' := h.2 g cur T0 fr hb (.inl hT)
  exact ⟨g, o, cur, fr, e, hb', fun i a ha => hP _ _ _ (hb'.trans hb.symm) (h3 i a ha)⟩
theorem cell_same {g o : Nat} (hs : w'.heap[g]? = w.heap[g]?) : w'.cell? ⟨g, o, none⟩ = w.cell? ⟨g, o, none⟩ := by unfold World.cell?; rw [hs]
theorem RatAt.tch {g o k : Nat} {r : RD} (hs : w'.heap[g]? = w.heap[g]?) (h : Tch T w w') (x : RatAt w g o r k) : RatAt w' g o r k := by
  obtain ⟨b, A, n, c, D, m, e, h1, h2, h3, h4⟩ := x
  exact ⟨b, A, n, c, D, m, e, (cell_same hs).trans h1, (cell_same hs).trans h2, (cell_same hs).trans h3, h4.tch h⟩
theorem MkAt.tch {g o k : Nat} {m : MarkL} (hs : w'.heap[g]? = w.heap[g]?) (h : Tch T w w') (x : MkAt k w g o m) : MkAt k w' g o m :=
  ⟨(cell_same hs).trans x.1, x.2.1.tch hs h, x.2.2.1.tch hs h, x.2.2.2⟩
abbrev MksT (k : Nat) (w : World) (A : Option Addr) (n c : Nat) (l : List MarkL) : Prop := SlT 85 (MkAt k) 7 w A n c l
theorem MksT.tch {k : Nat} {A : Option Addr} {n c : Nat} {l : List MarkL} (x : MksT k w A n c l) (h : Tch T w w') (hT : T 85 = false) : MksT k w' A n c l := SlT.tch x h hT fun _ _ _ hs p => p.tch hs h
end
/-! A thing's cells. -/
def MkC (k : Nat) (w : World) (cs : List Value) (m : MarkL) : Prop := ∃ b A n c D m1 e b' A' n' c' D' m' e', cs = [strV m.name, .bool b, .slice A n c, .slice D m1 e, .bool b', .slice A' n' c', .slice D' m' e'] ∧ QD w b A n c D m1 e m.x k ∧ QD w b' A' n' c' D' m' e' m.y k ∧ NmL m.name
def BdC (k : Nat) (w : World) (cs : List Value) (b : BodyL) : Prop := ∃ A n c, cs = [strV b.name, .slice A n c] ∧ MksT k w A n c b.pts ∧ NmL b.name
def JtC (_ : World) (cs : List Value) (j : JointL) : Prop := cs = [strV j.name, .int .i64 j.kind, .int .i64 j.a, .int .i64 j.point, .int .i64 j.b, .int .i64 j.on, .int .i64 j.to_] ∧ NmL j.name
def DrC (_ : World) (cs : List Value) (d : DriverL) : Prop := cs = [strV d.name, .int .i64 d.body] ∧ NmL d.name
section
variable {T : TypeId → Bool} {w w' : World} {k : Nat} {cs : List Value}
theorem MkC.tch {m : MarkL} (x : MkC k w cs m) (h : Tch T w w') : MkC k w' cs m := by
  obtain ⟨b, A, n, c, D, m1, e, b', A', n', c', D', m', e', h0, h1, h2, h3⟩ := x
  exact ⟨b, A, n, c, D, m1, e, b', A', n', c', D', m', e', h0, h1.tch h, h2.tch h, h3⟩
theorem BdC.tch {b : BodyL} (x : BdC k w cs b) (h : Tch T w w') (hT : T 85 = false) : BdC k w' cs b := by
  obtain ⟨A, n, c, h0, h1, h2⟩ := x
  exact ⟨A, n, c, h0, h1.tch h hT, h2⟩
theorem MkC.at_ {m : MarkL} {g o : Nat} (x : MkC k w cs m) (hc : ∀ j u, cs[j]? = some u → w.cell? ⟨g, o + j, none⟩ = some u) : MkAt k w g o m := by
  obtain ⟨b, A, n, c, D, m1, e, b', A', n', c', D', m', e', rfl, h1, h2, h3⟩ := x
  exact ⟨hc 0 _ rfl, ⟨b, A, n, c, D, m1, e, hc 1 _ rfl, hc 2 _ rfl, hc 3 _ rfl, h1⟩, ⟨b', A', n', c', D', m', e', hc 4 _ rfl, hc 5 _ rfl, hc 6 _ rfl, h2⟩, h3⟩
theorem BdC.at_ {b : BodyL} {g o : Nat} (x : BdC k w cs b) (hc : ∀ j u, cs[j]? = some u → w.cell? ⟨g, o + j, none⟩ = some u) : BdAt k w g o b := by
  obtain ⟨A, n, c, rfl, h1, h2⟩ := x
  exact ⟨A, n, c, hc 0 _ rfl, hc 1 _ rfl, h1.sl fun _ _ _ p => p, h2⟩
theorem JtC.at_ {j : JointL} {g o : Nat} (x : JtC w cs j) (hc : ∀ i u, cs[i]? = some u → w.cell? ⟨g, o + i, none⟩ = some u) : JtAt w g o j := by
  obtain ⟨rfl, h2⟩ := x
  exact ⟨hc 0 _ rfl, hc 1 _ rfl, hc 2 _ rfl, hc 3 _ rfl, hc 4 _ rfl, hc 5 _ rfl, hc 6 _ rfl, h2⟩
theorem DrC.at_ {d : DriverL} {g o : Nat} (x : DrC w cs d) (hc : ∀ i u, cs[i]? = some u → w.cell? ⟨g, o + i, none⟩ = some u) : DrAt w g o d := by
  obtain ⟨rfl, h2⟩ := x
  exact ⟨hc 0 _ rfl, hc 1 _ rfl, h2⟩
end
def RowC {α : Type} (Pc : World → List Value → α → Prop) (s : Nat) (w : World) (l : List α) (xs : List Value) : Prop :=
  ∃ css : List (List Value), xs = css.flatten ∧ css.length = l.length ∧ (∀ cs ∈ css, cs.length = s) ∧ ∀ (i : Nat) a cs, l[i]? = some a → css[i]? = some cs → Pc w cs a
theorem flat_at {s : Nat} : ∀ {css : List (List Value)} {i : Nat} {cs : List Value}, (∀ x ∈ css, x.length = s) → css[i]? = some cs → ∀ j, j < s → css.flatten[i * s + j]? = cs[j]?
  | [], i, cs, _, h, _, _ => by simp at h
  | x :: css, 0, cs, hl, h, j, hj => by
    simp only [List.getElem?_cons_zero, Option.some.injEq] at h
    subst h
    have := hl x (by simp)
    rw [List.flatten_cons, Nat.zero_mul, Nat.zero_add, List.getElem?_append_left (by omega)]
  | x :: css, i + 1, cs, hl, h, j, hj => by
    have hx := hl x (by simp)
    rw [List.flatten_cons, List.getElem?_append_right (by rw [hx, Nat.add_mul]; omega), hx, show (i + 1) * s + j - s = i * s + j by rw [Nat.add_mul]; omega]
    exact flat_at (fun y hy => hl y (by simp [hy])) (by simpa using h) j hj
section
variable {α : Type} {Pc : World → List Value → α → Prop} {s : Nat} {w w' : World} {l : List α} {xs : List Value}
theorem RowC.nil : RowC Pc s w ([] : List α) [] := by
  refine ⟨[], rfl, rfl, ?_, ?_⟩
  · intro cs h; cases h
  · intro i a cs h; simp at h
theorem RowC.snoc {a : α} {cs : List Value} (h : RowC Pc s w l xs) (ha : Pc w cs a) (hs : cs.length = s) : RowC Pc s w (l ++ [a]) (xs ++ cs) := by
  obtain ⟨css, e, hl, hall, hp⟩ := h
  refine ⟨css ++ [cs], by simp [e], by simp [hl], fun x hx => ?_, fun i b ds hb hd => ?_⟩
  · rcases List.mem_append.1 hx with hx | hx
    · exact hall x hx
    · simp at hx; subst hx; exact hs
  · rcases Nat.lt_or_ge i l.length with hi | hi
    · rw [List.getElem?_append_left hi] at hb
      rw [List.getElem?_append_left (by omega)] at hd
      exact hp i b ds hb hd
    · rw [List.getElem?_append_right hi] at hb
      rw [List.getElem?_append_right (by omega), hl] at hd
      rcases Nat.eq_zero_or_pos (i - l.length) with h0 | h0
      · rw [h0] at hb hd
        simp at hb hd
        subst hb hd
        exact ha
      · rw [List.getElem?_eq_none (by simp; omega)] at hb
        cases hb
theorem RowC.map_ {w' : World} (h : RowC Pc s w l xs) (hP : ∀ cs a, Pc w cs a → Pc w' cs a) : RowC Pc s w' l xs := by
  obtain ⟨css, e, hl, hall, hp⟩ := h
  exact ⟨css, e, hl, hall, fun i a cs h1 h2 => hP _ _ (hp i a cs h1 h2)⟩
end
def RowT {α : Type} (T0 : TypeId) (Pc : World → List Value → α → Prop) (s : Nat) (w : World) (base : Nat) (v : Value) (n : Nat) (l : List α) : Prop := l.length = n ∧ ∃ xs, OwJ noW w base T0 s v n xs ∧ RowC Pc s w l xs
section
variable {α : Type} {T0 : TypeId} {Pc : World → List Value → α → Prop} {s : Nat} {w w' : World} {base : Nat} {v : Value} {n : Nat} {l : List α}
theorem RowT.nil : RowT T0 Pc s w base (.slice none 0 0) 0 ([] : List α) := ⟨rfl, [], OwJ.nil _ _ _ _ _, RowC.nil⟩
theorem RowT.form (h : RowT T0 Pc s w base v n l) : ∃ A c, v = .slice A n c ∧ n ≤ c := by
  obtain ⟨_, xs, h1, _⟩ := h
  rcases h1.2 with ⟨rfl, rfl⟩ | ⟨g, cap, cur, rfl, _, _, h4, _⟩
  · exact ⟨none, 0, rfl, Nat.le_refl _⟩
  · exact ⟨_, cap, rfl, h4⟩
theorem RowT.slT {P : World → Nat → Nat → α → Prop} {A : Option Addr} {c : Nat} (h : RowT T0 Pc s w base (.slice A n c) n l) (hP : ∀ g o cs a, Pc w cs a → (∀ j u, cs[j]? = some u → w.cell? ⟨g, o + j, none⟩ = some u) → P w g o a) : SlT T0 P s w A n c l := by
  obtain ⟨hl, xs, h1, css, e, hcl, hall, hp⟩ := h
  rcases h1.2 with ⟨h2, rfl⟩ | ⟨g, cap, cur, h2, _, h3, h4, _, h6, h7, _⟩
  · injection h2 with a1 _ a3
    subst a1 a3
    exact ⟨hl, Nat.le_refl _, fun h => absurd h (by omega)⟩
  · injection h2 with a1 _ a3
    subst a1 a3
    refine ⟨hl, h4, fun _ => ⟨g, 0, cur, _, rfl, h3, fun i a ha => ?_⟩⟩
    have hi : i < n := by rw [← hl]; exact (List.getElem?_eq_some_iff.1 ha).1
    have hcs : css[i]? = some css[i] := List.getElem?_eq_getElem (by omega)
    refine hP _ _ _ _ (hp i a _ ha hcs) fun j u hu => ?_
    have hj : j < s := by rw [← hall css[i] (List.getElem_mem _)]; exact (List.getElem?_eq_some_iff.1 hu).1
    have h9 := flat_at hall hcs j hj
    rw [hu, ← e, ← h7, List.getElem?_take] at h9
    split at h9
    · unfold World.cell?
      rw [h3]
      simpa using h9
    · cases h9
theorem RowT.same (h : RowT T0 Pc s w base v n l) (hb : ∀ g cur, base ≤ g → w.heap[g]? = some (.cells cur T0 (0, 0)) → w'.heap[g]? = some (.cells cur T0 (0, 0))) (hP : ∀ cs a, Pc w cs a → Pc w' cs a) : RowT T0 Pc s w' base v n l := by
  obtain ⟨hl, xs, h1, h2⟩ := h
  refine ⟨hl, xs, ⟨h1.1, ?_⟩, h2.map_ hP⟩
  rcases h1.2 with h3 | ⟨g, cap, cur, h3, h4, h5, h6⟩
  · exact .inl h3
  · exact .inr ⟨g, cap, cur, h3, h4, hb g cur h4 h5, h6⟩
theorem RowT.tch {T : TypeId → Bool} (h : RowT T0 Pc s w base v n l) (ht : Tch T w w') (hT : T T0 = false) (hP : ∀ cs a, Pc w cs a → Pc w' cs a) : RowT T0 Pc s w' base v n l := h.same (fun g cur _ hg => ht.2 g cur T0 _ hg (.inl hT)) hP
end
end Go.Proofs.YtoiijifnfdgfpaaGreatDoor

/- Walks: tokens: Join of the program. -/
namespace Go.Proofs.YtoiijifnfdgfpaaGreatDoor
open Go Go.RowKit Bn
attribute [local go_sem ↓] Go.wp_at_zero Go.wp_at_succ
def strCs (l : List (List UInt8)) : List Value := l.map strV
theorem toL_v (l : List UInt8) : (⟨l.toArray⟩ : ByteArray).data.toList = l := by simp
theorem join18_v (w : World) (g cap n : Nat) (L : List (List UInt8)) (hL : L.length = n) (hcells : ∀ (j : Nat) x, L[j]? = some x → w.cell? ⟨g, j, none⟩ = some (strV x)) (hg : g < w.heap.size) (hN : n ≤ 140737488355328) (hcap : n ≤ cap) (hlen : (joinT L).length ≤ 140737488355328) :
    Calls Tryz.prog 68 #[.slice (some ⟨g, 0, none⟩) n cap, .string ⟨#[32]⟩] w (RetV w (strV (joinT L))) := by
  subst hL
  have e : (L.map fun x => (⟨x.toArray⟩ : ByteArray)).map (·.data.toList) = L := by
    rw [List.map_map]
    conv => rhs; rw [← List.map_id L]
    exact List.map_congr_left fun x _ => toL_v x
  have h := Tryz.strings_Join g 0 cap (L.map fun x => ⟨x.toArray⟩) ⟨#[32]⟩ w (fun j x hx => by
    rw [List.getElem?_map, Option.map_eq_some_iff] at hx
    obtain ⟨y, hy, rfl⟩ := hx
    rw [Nat.zero_add]
    exact hcells j y hy) hg (by rw [List.length_map]; exact hN) (by rw [List.length_map]; exact hcap) (by rw [e]; show (Lib.join L [32]).length ≤ _; rw [joinT_eq]; exact hlen)
  rw [List.length_map, e] at h
  refine h.mono fun e' w' ⟨he, hb⟩ => ⟨?_, hb⟩
  rw [he]
  show Ending.returned (.string ⟨(Lib.join L [32]).toArray⟩) = _
  rw [joinT_eq]
end Go.Proofs.YtoiijifnfdgfpaaGreatDoor

/- Walks: tokens: the value of a number. -/
namespace Go.Proofs.YtoiijifnfdgfpaaGreatDoor
open Go Go.RowKit Bn
attribute [local go_sem ↓] Go.wp_at_zero Go.wp_at_succ
theorem trimL_v (w : World) (s : List UInt8) : Calls Tryz.prog 229 #[strV s, .string ⟨#[48]⟩] w (RetV w (strV (s.dropWhile (· == 48)))) := by
  refine (Tryz.strings_TrimLeft_one ⟨s.toArray⟩ 48 (by decide) w).mono fun e w' ⟨he, hw⟩ => ⟨?_, hw ▸ brefl _⟩
  rw [he]
  congr 2
theorem cutp_v (w : World) (s : List UInt8) (m : Bool) (b : List UInt8) (hm : headM s = m) (hb : tailS s = b) : Calls Tryz.prog 192 #[strV s, .string ⟨#[45]⟩] w (RetV w (.tuple #[strV b, .bool m])) := by
  refine (Tryz.strings_CutPrefix ⟨s.toArray⟩ ⟨#[45]⟩ w).mono fun e w' ⟨he, hw⟩ => ⟨?_, hw ▸ brefl _⟩
  rw [he]
  have e1 : Lib.hasPrefix s [45] = m := (hasPrefix_m s).trans hm
  have e2 : Lib.trimPrefix s [45] = b := (trimPrefix_m s).trans hb
  show Ending.returned (.tuple #[.string ⟨(Lib.trimPrefix s [45]).toArray⟩, .bool (Lib.hasPrefix s [45])]) = _
  rw [e1, e2]
theorem rep_v (w : World) (n : Nat) (hn : n ≤ 1000) (Z : List UInt8) (hZ : List.replicate n 48 = Z) : Calls Tryz.prog 86 #[.string ⟨#[48]⟩, .int .i64 (n : Nat)] w (RetV w (strV Z)) := by
  refine (Tryz.strings_Repeat ⟨#[48]⟩ n w (by omega) (by show 1 * n ≤ _; omega)).mono fun e w' ⟨he, hb⟩ => ⟨?_, hb⟩
  subst hZ
  rw [he]
  have e9 : ∀ k, Lib.repeatL [48] k = List.replicate k 48 := fun k => by
    induction k with
    | zero => rfl
    | succ k ih => rw [Lib.repeatL, ih, List.replicate_succ]; rfl
  exact congrArg (fun x : List UInt8 => Ending.returned (strV x)) (e9 n)
theorem parse_d (w : World) (T : List UInt8) (z : Int) (ho : okZ T = true) (hz : valZ T = z) (hl : T.length ≤ 130) : Calls Tryz.prog 76 #[strV T] w (RetIe w .nilIface z 130) := by
  subst hz
  exact (i_parse_ok w T (by omega) ho).mono fun e w' ⟨b, A, n, c, h1, h2, h3⟩ => ⟨b, A, n, c, h1, h2.mono hl, h3⟩
theorem t_plain (w : World) (s t : List UInt8) (ht : plainT s = t) : Calls Tryz.prog 193 #[strV s] w (RetV w (strV t)) := by
 obtain ⟨u, hu⟩ : ∃ u, s.dropWhile (· == 48) = u := ⟨_, rfl⟩
 unfold plainT at ht
 rw [hu] at ht
 have HT := trimL_v w s
 rw [hu] at HT
 have HT := Lib.hid HT
 by_cases h0 : u = []
 ·subst h0
  obtain rfl : [48] = t := ht
  clear hu
  go_enter Tryz.func193, Tryz.ntmps193
  go_wp2_with fail
  (with_reducible refine HT.out.mono ?_); rintro e w1 ⟨rfl, hb1⟩
  go_wp2_with fail
  go_ret
  exact ⟨rfl, hb1⟩
 ·obtain rfl : u = t := by rw [if_neg h0] at ht; exact ht
  obtain ⟨y, ys, hyy⟩ := List.exists_cons_of_ne_nil h0
  have hBe : ((⟨u.toArray⟩ : ByteArray) == ⟨#[]⟩) = false := by rw [hyy]; rfl
  have hBl : (u == []) = false := by rw [hyy]; rfl
  have hBn : (u = []) = False := eq_false h0
  clear hu hyy h0
  go_enter Tryz.func193, Tryz.ntmps193
  go_wp2_with fail
  (with_reducible refine HT.out.mono ?_); rintro e w1 ⟨rfl, hb1⟩
  go_wp2_with fail
  go_ret
  exact ⟨rfl, hb1⟩
theorem t_value_large (w : World) (s : List UInt8) (h : 60 < s.length) : Calls Tryz.prog 154 #[strV s] w (RetFe w (.iface 63 (.int .i64 4)) 0 1) := by
 have hszs := size_v s
 have hlen : ((60 : Int) < (s.length : Int)) = True := eq_true (by omega)
 go_enter Tryz.func154, Tryz.ntmps154
 go_wp2_with fail
 refine bodyPost_ret (v := .tuple #[.agg #[.bool false, .slice none 0 0, .slice none 0 0], .iface 63 (.int .i64 4)]) (by simp [results, Tryz.results154, go_sem, *] <;> trivial) rfl ?_
 exact ⟨_, _, _, _, _, _, _, rfl, QV.zero _ _, ((brefl w).alloc (by first | omega | (simp <;> omega)) (.cells #[.bool false, .slice none 0 0, .slice none 0 0] 72))⟩
theorem t_value_bad (w : World) (s : List UInt8) (h : s.length ≤ 60) (hb : s.length = 0 ∨ numN s ≠ s.length) : Calls Tryz.prog 154 #[strV s] w (RetFe w (.iface 63 (.int .i64 2)) 0 1) := by
 have hszs := size_v s
 have hlen : ((60 : Int) < (s.length : Int)) = False := eq_false (by omega)
 obtain ⟨n, hn⟩ : ∃ n, numN s = n := ⟨_, rfl⟩
 have hnl : n ≤ s.length := by rw [← hn]; exact numN_le s
 rw [hn] at hb
 by_cases h0 : n = 0
 ·subst h0
  clear hb
  go_enter Tryz.func154, Tryz.ntmps154
  go_wp2_with fail
  (with_reducible refine (t_number _ (s) (by omega) 0 hn).mono ?_); rintro e w1 ⟨rfl, hb1⟩
  have q1 := hb1.q1
  have x1a : Blk w1 w.heap.size 72 #[.bool false, .slice none 0 0, .slice none 0 0] := (blkAt _ _ _ (by simp)).below hb1 (by simp)
  have bw1 := (brefl w).trans (q1.mono (brefl w).size)
  have lw1 := hb1.l1
  clear q1
  obtain ⟨cx1aa, cx1ab, cx1ac⟩ := x1a.c3
  obtain ⟨fx1aa, fx1ab, fx1ac⟩ := x1a.f3
  obtain ⟨lx1aa, lx1ab, lx1ac, lx1ad⟩ := lts0 x1a.lt
  go_wp2_with fail
  refine bodyPost_ret (v := .tuple #[.agg #[.bool false, .slice none 0 0, .slice none 0 0], .iface 63 (.int .i64 2)]) (by simp [results, Tryz.results154, go_sem, *] <;> trivial) rfl ?_
  exact ⟨_, _, _, _, _, _, _, rfl, QV.zero _ _, (((bw1.sc w.heap.size 0 (by omega) (.bool false)).sc w.heap.size 1 (by omega) (.slice none 0 0)).sc w.heap.size 2 (by omega) (.slice none 0 0))⟩
 ·have e0 : ((n : Int) == 0) = false := by simp; omega
  have e00 : ((n : Int) = 0) = False := eq_false (by omega)
  have e1 : ((n : Int) == (s.length : Int)) = false := by simp; omega
  clear hb h0
  go_enter Tryz.func154, Tryz.ntmps154
  go_wp2_with fail
  (with_reducible refine (t_number _ (s) (by omega) n hn).mono ?_); rintro e w1 ⟨rfl, hb1⟩
  have q1 := hb1.q1
  have x1a : Blk w1 w.heap.size 72 #[.bool false, .slice none 0 0, .slice none 0 0] := (blkAt _ _ _ (by simp)).below hb1 (by simp)
  have bw1 := (brefl w).trans (q1.mono (brefl w).size)
  have lw1 := hb1.l1
  clear q1
  obtain ⟨cx1aa, cx1ab, cx1ac⟩ := x1a.c3
  obtain ⟨fx1aa, fx1ab, fx1ac⟩ := x1a.f3
  obtain ⟨lx1aa, lx1ab, lx1ac, lx1ad⟩ := lts0 x1a.lt
  go_wp2_with fail
  refine bodyPost_ret (v := .tuple #[.agg #[.bool false, .slice none 0 0, .slice none 0 0], .iface 63 (.int .i64 2)]) (by simp [results, Tryz.results154, go_sem, *] <;> trivial) rfl ?_
  exact ⟨_, _, _, _, _, _, _, rfl, QV.zero _ _, (((bw1.sc w.heap.size 0 (by omega) (.bool false)).sc w.heap.size 1 (by omega) (.slice none 0 0)).sc w.heap.size 2 (by omega) (.slice none 0 0))⟩
theorem t_value_whole (w : World) (s : List UInt8) (m : Bool) (D : List UInt8) (hmx : Mx w) (h : s.length ≤ 60) (hn : numN s = s.length) (hD : isD D) (hs : s = sg m D) : Calls Tryz.prog 154 #[strV s] w (RetFe w .nilIface ((sgI m (decVal D) : Int) : Rat) 130) := by
 have hszs := size_v s
 have hlen : ((60 : Int) < (s.length : Int)) = False := eq_false (by omega)
 have hhm := headM_sg (m := m) (r := []) hD
 have h1l : D.length + 0 ≤ s.length := by rw [hs]; cases m <;> simp [sg] <;> omega
 have h2l : 0 < D.length := List.length_pos_iff.2 hD.1
 have hBS : D.length ≤ 60 := by first | omega | (simp; omega)
 rw [List.append_nil] at hhm
 rw [← hs] at hhm
 have HH := Lib.hid hhm
 have HC1 := Lib.hid (cut_no (isD_no hD (c := 47) (by decide)))
 have HC2 := Lib.hid (cut_no (isD_no hD (c := 46) (by decide)))
 have hNd : D.all isDg = true := hD.2
 obtain ⟨TN, hTN⟩ : ∃ TN, plainT D = TN := ⟨_, rfl⟩
 obtain ⟨hN1, hN2, hN3⟩ := plain_ok hNd
 rw [hTN] at hN1 hN2 hN3
 obtain ⟨zn, hzn⟩ : ∃ zn : Nat, decVal D = zn := ⟨_, rfl⟩
 rw [hzn] at hN2
 have hNl : TN.length ≤ 130 := by omega
 have HTN := Lib.hid hTN
 have HN := Lib.hid (And.intro hN1 (And.intro hN2 hNl))
 obtain ⟨TD, hTD⟩ : ∃ TD, plainT [49] = TD := ⟨_, rfl⟩
 have hM1 : okZ TD = true := by rw [← hTD]; decide
 have hM2 : valZ TD = ((1 : Nat) : Int) := by rw [← hTD]; decide
 have hMl : TD.length ≤ 130 := by rw [← hTD]; decide
 obtain ⟨zd, hzd⟩ : ∃ zd : Nat, (1 : Nat) = zd := ⟨_, rfl⟩
 rw [hzd] at hM2
 have hDz : zd < 4294967296 ^ 60 := by rw [← hzd]; decide
 have HTD := Lib.hid hTD
 have HD := Lib.hid (And.intro hM1 (And.intro hM2 hMl))
 have hNz : zn < 4294967296 ^ 60 := by rw [← hzn]; exact dec_sz60 hNd (by omega)
 rw [hzn]
 have hzd0 : (zd : Int) ≠ 0 := by omega
 obtain ⟨v, hv⟩ : ∃ v : Rat, ((sgI m (zn : Nat) : Int) : Rat) = v := ⟨_, rfl⟩
 rw [hv]
 have HV : Hid (Rat.divInt (sgI m (zn : Nat)) (zd : Nat) = v) := Lib.hid (by rw [← hv, ← hzd]; exact int_q _)
 have HSZ : Hid (Sz v 130) := Lib.hid (by rw [← HV.out]; exact Sz_divInt (by rw [sgI_abs]; exact Nat.lt_trans hNz (Nat.pow_lt_pow_right (by decide) (by decide))) (by rw [Int.natAbs_natCast]; exact Nat.lt_trans hDz (Nat.pow_lt_pow_right (by decide) (by decide))) (by decide))
 have HZ0 := Lib.hid hzd0
 have hn0 : ((s.length : Int) == 0) = false := beq_eq_false_iff_ne.2 (by omega)
 have hn00 : ((s.length : Int) = 0) = False := eq_false (by omega)
 have hsl : s.length < 4611686018427387904 := by omega
 have HBS := Lib.hid hBS
 clear hs hhm hNd hTN hN1 hN2 hN3 hNl hTD hM1 hM2 hMl hNz hDz hzd0 hv hzn hzd hBS
 have HmD := Lib.hid hD
 clear hD
 cases m
 ·have HV2 : Hid (Rat.divInt ((zn : Int)) (zd : Int) = v) := Lib.hid HV.out
  clear HV
  go_enter Tryz.func154, Tryz.ntmps154
  go_wp2_with fail
  (with_reducible refine (t_number _ (s) hsl s.length hn).mono ?_); rintro e w1 ⟨rfl, hb1⟩
  have q1 := hb1.q1
  have x1a : Blk w1 w.heap.size 72 #[.bool false, .slice none 0 0, .slice none 0 0] := (blkAt _ _ _ (by simp)).below hb1 (by simp)
  have bw1 := (brefl w).trans (q1.mono (brefl w).size)
  have lw1 := hb1.l1
  clear q1
  go_wp2_with fail
  (with_reducible refine (cutp_v _ (s) false D HH.out.1 HH.out.2).mono ?_); rintro e w2 ⟨rfl, q2⟩
  replace x1a := x1a.b q2
  have bw2 := bw1.trans (q2.mono bw1.size)
  have lw2 := q2.size
  clear q2 bw1
  go_wp2_with fail
  (with_reducible refine (cut_v _ (D) 47 D [] false (hmx.belw bw2) (by have := HBS.out; omega) HC1.out).mono ?_); rintro e w3 ⟨rfl, q3⟩
  replace x1a := x1a.b q3
  have bw3 := bw2.trans (q3.mono bw2.size)
  have lw3 := q3.size
  clear q3 bw2
  go_wp2_with fail
  (with_reducible refine (cut_v _ (D) 46 D [] false (hmx.belw bw3) (by have := HBS.out; omega) HC2.out).mono ?_); rintro e w4 ⟨rfl, q4⟩
  replace x1a := x1a.b q4
  have bw4 := bw3.trans (q4.mono bw3.size)
  have lw4 := q4.size
  clear q4 bw3
  go_wp2_with fail
  (with_reducible refine (t_plain _ (D) TN HTN.out).mono ?_); rintro e w5 ⟨rfl, q5⟩
  replace x1a := x1a.b q5
  have bw5 := bw4.trans (q5.mono bw4.size)
  have lw5 := q5.size
  clear q5 bw4
  go_wp2_with fail
  (with_reducible refine (parse_d _ (TN) (zn : Nat) HN.out.1 HN.out.2.1 HN.out.2.2).mono ?_); rintro e w6 ⟨b6, A6, n6, c6, rfl, h6, q6⟩
  replace x1a := x1a.b q6
  have bw6 := bw5.trans (q6.mono bw5.size)
  have lw6 := q6.size
  clear q6 bw5
  go_wp2_with fail
  (with_reducible refine (t_plain _ ([49]) TD HTD.out).mono ?_); rintro e w7 ⟨rfl, hb7⟩
  have q7 := hb7.q1
  replace h6 := h6.belw q7
  replace x1a := x1a.b q7
  have x7a : Blk w7 w6.heap.size 123 #[.bool b6, .slice A6 n6 c6] := (blkAt _ _ _ (by simp)).below hb7 (by simp)
  have bw7 := bw6.trans (q7.mono bw6.size)
  have lw7 := hb7.l1
  clear q7 bw6
  go_wp2_with fail
  (with_reducible refine (parse_d _ (TD) (zd : Nat) HD.out.1 HD.out.2.1 HD.out.2.2).mono ?_); rintro e w8 ⟨b8, A8, n8, c8, rfl, h8, q8⟩
  replace h6 := h6.belw q8
  replace x1a := x1a.b q8
  replace x7a := x7a.b q8
  have bw8 := bw7.trans (q8.mono bw7.size)
  have lw8 := q8.size
  clear q8 bw7
  obtain ⟨cx7aa, cx7ab⟩ := x7a.c2
  obtain ⟨lx7aa, lx7ab, lx7ac, lx7ad⟩ := lts0 x7a.lt
  go_wp2_with fail
  (with_reducible refine (f_from _ b6 A6 n6 c6 (((zn : Nat) : Int)) (130) ?_ b8 A8 n8 c8 (((zd : Nat) : Int)) (130) ?_ v 130 HZ0.out HV2.out HSZ.out (by decide)).mono ?_); (exact (h6.belw ((Below.refl _ _).alloc (Nat.le_refl _) _)).iz); (exact (h8.belw ((Below.refl _ _).alloc (Nat.le_refl _) _)).iz); rintro e w9 ⟨b9, A9, n9, c9, A'9, n'9, c'9, rfl, h9, hb9⟩
  clear cx7aa cx7ab lx7aa lx7ab lx7ac lx7ad
  have q9 := hb9.q1
  replace h6 := h6.belw q9
  replace h8 := h8.belw q9
  replace x1a := x1a.b q9
  replace x7a := x7a.b q9
  have x9a : Blk w9 w8.heap.size 123 #[.bool b8, .slice A8 n8 c8] := (blkAt _ _ _ (by simp)).below hb9 (by simp)
  have bw9 := bw8.trans (q9.mono bw8.size)
  have lw9 := hb9.l1
  clear q9 bw8
  obtain ⟨cx1aa, cx1ab, cx1ac⟩ := x1a.c3
  obtain ⟨fx1aa, fx1ab, fx1ac⟩ := x1a.f3
  obtain ⟨lx1aa, lx1ab, lx1ac, lx1ad⟩ := lts0 x1a.lt
  go_wp2_with fail
  refine bodyPost_ret (v := .tuple #[.agg #[.bool b9, .slice A9 n9 c9, .slice A'9 n'9 c'9], .nilIface]) (by simp [results, Tryz.results154, go_sem, *] <;> trivial) rfl ?_
  exact ⟨_, _, _, _, _, _, _, rfl, ((h9).keep ((((Kp.refl w9).sb w.heap.size 0 x1a.box (by decide) (.bool b9)).sb w.heap.size 1 (x1a.box.set ⟨w.heap.size, 0, none⟩ (.bool b9)) (by decide) (.slice A9 n9 c9)).sb w.heap.size 2 ((x1a.box.set ⟨w.heap.size, 0, none⟩ (.bool b9)).set ⟨w.heap.size, 1, none⟩ (.slice A9 n9 c9)) (by decide) (.slice A'9 n'9 c'9))).mono (by decide), (((bw9.sc w.heap.size 0 (by omega) (.bool b9)).sc w.heap.size 1 (by omega) (.slice A9 n9 c9)).sc w.heap.size 2 (by omega) (.slice A'9 n'9 c'9))⟩
 ·have HV2 : Hid (Rat.divInt (-(zn : Int)) (zd : Int) = v) := Lib.hid HV.out
  clear HV
  go_enter Tryz.func154, Tryz.ntmps154
  go_wp2_with fail
  (with_reducible refine (t_number _ (s) hsl s.length hn).mono ?_); rintro e w1 ⟨rfl, hb1⟩
  have q1 := hb1.q1
  have x1a : Blk w1 w.heap.size 72 #[.bool false, .slice none 0 0, .slice none 0 0] := (blkAt _ _ _ (by simp)).below hb1 (by simp)
  have bw1 := (brefl w).trans (q1.mono (brefl w).size)
  have lw1 := hb1.l1
  clear q1
  go_wp2_with fail
  (with_reducible refine (cutp_v _ (s) true D HH.out.1 HH.out.2).mono ?_); rintro e w2 ⟨rfl, q2⟩
  replace x1a := x1a.b q2
  have bw2 := bw1.trans (q2.mono bw1.size)
  have lw2 := q2.size
  clear q2 bw1
  go_wp2_with fail
  (with_reducible refine (cut_v _ (D) 47 D [] false (hmx.belw bw2) (by have := HBS.out; omega) HC1.out).mono ?_); rintro e w3 ⟨rfl, q3⟩
  replace x1a := x1a.b q3
  have bw3 := bw2.trans (q3.mono bw2.size)
  have lw3 := q3.size
  clear q3 bw2
  go_wp2_with fail
  (with_reducible refine (cut_v _ (D) 46 D [] false (hmx.belw bw3) (by have := HBS.out; omega) HC2.out).mono ?_); rintro e w4 ⟨rfl, q4⟩
  replace x1a := x1a.b q4
  have bw4 := bw3.trans (q4.mono bw3.size)
  have lw4 := q4.size
  clear q4 bw3
  go_wp2_with fail
  (with_reducible refine (t_plain _ (D) TN HTN.out).mono ?_); rintro e w5 ⟨rfl, q5⟩
  replace x1a := x1a.b q5
  have bw5 := bw4.trans (q5.mono bw4.size)
  have lw5 := q5.size
  clear q5 bw4
  go_wp2_with fail
  (with_reducible refine (parse_d _ (TN) (zn : Nat) HN.out.1 HN.out.2.1 HN.out.2.2).mono ?_); rintro e w6 ⟨b6, A6, n6, c6, rfl, h6, q6⟩
  replace x1a := x1a.b q6
  have bw6 := bw5.trans (q6.mono bw5.size)
  have lw6 := q6.size
  clear q6 bw5
  go_wp2_with fail
  (with_reducible refine (t_plain _ ([49]) TD HTD.out).mono ?_); rintro e w7 ⟨rfl, hb7⟩
  have q7 := hb7.q1
  replace h6 := h6.belw q7
  replace x1a := x1a.b q7
  have x7a : Blk w7 w6.heap.size 123 #[.bool b6, .slice A6 n6 c6] := (blkAt _ _ _ (by simp)).below hb7 (by simp)
  have bw7 := bw6.trans (q7.mono bw6.size)
  have lw7 := hb7.l1
  clear q7 bw6
  go_wp2_with fail
  (with_reducible refine (parse_d _ (TD) (zd : Nat) HD.out.1 HD.out.2.1 HD.out.2.2).mono ?_); rintro e w8 ⟨b8, A8, n8, c8, rfl, h8, q8⟩
  replace h6 := h6.belw q8
  replace x1a := x1a.b q8
  replace x7a := x7a.b q8
  have bw8 := bw7.trans (q8.mono bw7.size)
  have lw8 := q8.size
  clear q8 bw7
  obtain ⟨cx7aa, cx7ab⟩ := x7a.c2
  obtain ⟨lx7aa, lx7ab, lx7ac, lx7ad⟩ := lts0 x7a.lt
  go_wp2_with fail
  (with_reducible refine (i_neg _ b6 A6 n6 c6 (((zn : Nat) : Int)) (130) ?_ ?_).mono ?_); (exact (h6.belw ((Below.refl _ _).alloc (Nat.le_refl _) _)).iz); (omega); rintro e w9 ⟨b9, A9, n9, c9, rfl, h9, hb9⟩
  clear cx7aa cx7ab lx7aa lx7ab lx7ac lx7ad
  have q9 := hb9.q1
  replace h6 := h6.belw q9
  replace h8 := h8.belw q9
  replace x1a := x1a.b q9
  replace x7a := x7a.b q9
  have x9a : Blk w9 w8.heap.size 123 #[.bool b8, .slice A8 n8 c8] := (blkAt _ _ _ (by simp)).below hb9 (by simp)
  have bw9 := bw8.trans (q9.mono bw8.size)
  have lw9 := hb9.l1
  clear q9 bw8
  obtain ⟨cx7aa, cx7ab⟩ := x7a.c2
  have fx7a := x7a.f2
  obtain ⟨lx7aa, lx7ab, lx7ac, lx7ad⟩ := lts0 x7a.lt
  have cx9a := x9a.c2
  have lx9a := lts0 x9a.lt
  go_wp2_with fail
  clear cx7aa fx7a cx7ab lx7aa lx7ab lx7ac lx7ad cx9a lx9a
  have p10 := (((Kp.refl w9).sb w6.heap.size 0 x7a.box (by decide) (.bool b9)).sb w6.heap.size 1 (x7a.box.set ⟨w6.heap.size, 0, none⟩ (.bool b9)) (by decide) (.slice A9 n9 c9))
  have bw10 := ((bw9.sc w6.heap.size 0 (by omega) (.bool b9)).sc w6.heap.size 1 (by omega) (.slice A9 n9 c9))
  replace x1a := ((x1a.fr w6.heap.size 0 (by omega) (.bool b9)).fr w6.heap.size 1 (by omega) (.slice A9 n9 c9))
  replace x7a := ((x7a.set_at 0 (.bool b9) #[.bool b9, .slice A6 n6 c6] (by simp)).set_at 1 (.slice A9 n9 c9) #[.bool b9, .slice A9 n9 c9] (by simp))
  replace x9a := ((x9a.fr w6.heap.size 0 (by omega) (.bool b9)).fr w6.heap.size 1 (by omega) (.slice A9 n9 c9))
  have lw10 : w9.heap.size + 0 ≤ ((w9.setCell ⟨w6.heap.size, 0, none⟩ (.bool b9)).setCell ⟨w6.heap.size, 1, none⟩ (.slice A9 n9 c9)).heap.size := by simp
  generalize hE10 : ((w9.setCell ⟨w6.heap.size, 0, none⟩ (.bool b9)).setCell ⟨w6.heap.size, 1, none⟩ (.slice A9 n9 c9)) = w10 at p10 bw10 lw10 x1a x7a x9a ⊢
  clear hE10
  replace h6 := h6.keep p10
  replace h8 := h8.keep p10
  replace h9 := h9.keep p10
  clear bw9
  (with_reducible refine (f_from _ b9 A9 n9 c9 (-(((zn : Nat) : Int))) ((130)) ?_ b8 A8 n8 c8 (((zd : Nat) : Int)) (130) ?_ v 130 HZ0.out HV2.out HSZ.out (by decide)).mono ?_); (exact h9.iz); (exact h8.iz); rintro e w11 ⟨b11, A11, n11, c11, A'11, n'11, c'11, rfl, h11, q11⟩
  replace h6 := h6.belw q11
  replace h8 := h8.belw q11
  replace h9 := h9.belw q11
  replace x1a := x1a.b q11
  replace x7a := x7a.b q11
  replace x9a := x9a.b q11
  have bw11 := bw10.trans (q11.mono bw10.size)
  have lw11 := q11.size
  clear q11 bw10
  obtain ⟨cx1aa, cx1ab, cx1ac⟩ := x1a.c3
  obtain ⟨fx1aa, fx1ab, fx1ac⟩ := x1a.f3
  obtain ⟨lx1aa, lx1ab, lx1ac, lx1ad⟩ := lts0 x1a.lt
  go_wp2_with fail
  refine bodyPost_ret (v := .tuple #[.agg #[.bool b11, .slice A11 n11 c11, .slice A'11 n'11 c'11], .nilIface]) (by simp [results, Tryz.results154, go_sem, *] <;> trivial) rfl ?_
  exact ⟨_, _, _, _, _, _, _, rfl, ((h11).keep ((((Kp.refl w11).sb w.heap.size 0 x1a.box (by decide) (.bool b11)).sb w.heap.size 1 (x1a.box.set ⟨w.heap.size, 0, none⟩ (.bool b11)) (by decide) (.slice A11 n11 c11)).sb w.heap.size 2 ((x1a.box.set ⟨w.heap.size, 0, none⟩ (.bool b11)).set ⟨w.heap.size, 1, none⟩ (.slice A11 n11 c11)) (by decide) (.slice A'11 n'11 c'11))).mono (by decide), (((bw11.sc w.heap.size 0 (by omega) (.bool b11)).sc w.heap.size 1 (by omega) (.slice A11 n11 c11)).sc w.heap.size 2 (by omega) (.slice A'11 n'11 c'11))⟩
theorem t_value_quo0 (w : World) (s : List UInt8) (m : Bool) (D E : List UInt8) (hmx : Mx w) (h : s.length ≤ 60) (hn : numN s = s.length) (hD : isD D) (hE : isD E) (hs : s = sg m (D ++ 47 :: E)) (h0 : decVal E = 0) : Calls Tryz.prog 154 #[strV s] w (RetFe w (.iface 63 (.int .i64 8)) 0 130) := by
 have hszs := size_v s
 have hlen : ((60 : Int) < (s.length : Int)) = False := eq_false (by omega)
 have hhm := headM_sg (m := m) (r := (47 :: E)) hD
 have h1l : D.length + (1 + E.length) ≤ s.length := by rw [hs]; cases m <;> simp [sg] <;> omega
 have h2l : 0 < D.length := List.length_pos_iff.2 hD.1
 have hBS : (D ++ 47 :: E).length ≤ 60 := by first | omega | (simp; omega)
 rw [← hs] at hhm
 have HH := Lib.hid hhm
 have HC1 := Lib.hid (cut_at (b := E) (isD_no hD (c := 47) (by decide)))
 have HC2 := Lib.hid (cut_no (c := 46) (a := D ++ 47 :: E) (by
  intro hm
  rcases List.mem_append.1 hm with e | e
  ·exact isD_no hD (by decide) e
  ·rcases List.mem_cons.1 e with e | e
   ·exact absurd e (by decide)
   ·exact isD_no hE (by decide) e))
 have hNd : D.all isDg = true := hD.2
 obtain ⟨TN, hTN⟩ : ∃ TN, plainT D = TN := ⟨_, rfl⟩
 obtain ⟨hN1, hN2, hN3⟩ := plain_ok hNd
 rw [hTN] at hN1 hN2 hN3
 obtain ⟨zn, hzn⟩ : ∃ zn : Nat, decVal D = zn := ⟨_, rfl⟩
 rw [hzn] at hN2
 have hNl : TN.length ≤ 130 := by omega
 have HTN := Lib.hid hTN
 have HN := Lib.hid (And.intro hN1 (And.intro hN2 hNl))
 obtain ⟨TD, hTD⟩ : ∃ TD, plainT E = TD := ⟨_, rfl⟩
 obtain ⟨hM1, hM2, hM3⟩ := plain_ok hE.2
 rw [hTD] at hM1 hM2 hM3
 obtain ⟨zd, hzd⟩ : ∃ zd : Nat, decVal E = zd := ⟨_, rfl⟩
 rw [hzd] at hM2
 have hMl : TD.length ≤ 130 := by omega
 have hDz : zd < 4294967296 ^ 60 := by rw [← hzd]; exact dec_sz60 hE.2 (by omega)
 have HTD := Lib.hid hTD
 have HD := Lib.hid (And.intro hM1 (And.intro hM2 hMl))
 have hNz : zn < 4294967296 ^ 60 := by rw [← hzn]; exact dec_sz60 hNd (by omega)
 have hzd0 : (zd : Int) = 0 := by rw [hzd] at h0; omega
 obtain ⟨v, hv⟩ : ∃ v : Rat, 0 = v := ⟨_, rfl⟩
 skip
 have HV : Hid (Rat.divInt (sgI m (zn : Nat)) (zd : Nat) = v) := Lib.hid (by rw [← hv, hzd0, Rat.divInt_zero])
 have HSZ : Hid (Sz v 130) := Lib.hid (by rw [← hv]; exact ⟨by decide, by decide⟩)
 have HZ0 := Lib.hid hzd0
 have hn0 : ((s.length : Int) == 0) = false := beq_eq_false_iff_ne.2 (by omega)
 have hn00 : ((s.length : Int) = 0) = False := eq_false (by omega)
 have hsl : s.length < 4611686018427387904 := by omega
 have HBS := Lib.hid hBS
 clear hs hhm hNd hTN hN1 hN2 hN3 hNl hTD hM1 hM2 hMl hNz hDz hzd0 hv hzn hzd hBS h0
 have HmD := Lib.hid hD
 clear hD
 have HmE := Lib.hid hE
 clear hE
 cases m
 ·have HV2 : Hid (Rat.divInt ((zn : Int)) (zd : Int) = v) := Lib.hid HV.out
  clear HV
  go_enter Tryz.func154, Tryz.ntmps154
  go_wp2_with fail
  (with_reducible refine (t_number _ (s) hsl s.length hn).mono ?_); rintro e w1 ⟨rfl, hb1⟩
  have q1 := hb1.q1
  have x1a : Blk w1 w.heap.size 72 #[.bool false, .slice none 0 0, .slice none 0 0] := (blkAt _ _ _ (by simp)).below hb1 (by simp)
  have bw1 := (brefl w).trans (q1.mono (brefl w).size)
  have lw1 := hb1.l1
  clear q1
  go_wp2_with fail
  (with_reducible refine (cutp_v _ (s) false (D ++ 47 :: E) HH.out.1 HH.out.2).mono ?_); rintro e w2 ⟨rfl, q2⟩
  replace x1a := x1a.b q2
  have bw2 := bw1.trans (q2.mono bw1.size)
  have lw2 := q2.size
  clear q2 bw1
  go_wp2_with fail
  (with_reducible refine (cut_v _ ((D ++ 47 :: E)) 47 D E true (hmx.belw bw2) (by have := HBS.out; omega) HC1.out).mono ?_); rintro e w3 ⟨rfl, q3⟩
  replace x1a := x1a.b q3
  have bw3 := bw2.trans (q3.mono bw2.size)
  have lw3 := q3.size
  clear q3 bw2
  go_wp2_with fail
  (with_reducible refine (cut_v _ ((D ++ 47 :: E)) 46 (D ++ 47 :: E) [] false (hmx.belw bw3) (by have := HBS.out; omega) HC2.out).mono ?_); rintro e w4 ⟨rfl, q4⟩
  replace x1a := x1a.b q4
  have bw4 := bw3.trans (q4.mono bw3.size)
  have lw4 := q4.size
  clear q4 bw3
  go_wp2_with fail
  (with_reducible refine (t_plain _ (D) TN HTN.out).mono ?_); rintro e w5 ⟨rfl, q5⟩
  replace x1a := x1a.b q5
  have bw5 := bw4.trans (q5.mono bw4.size)
  have lw5 := q5.size
  clear q5 bw4
  go_wp2_with fail
  (with_reducible refine (parse_d _ (TN) (zn : Nat) HN.out.1 HN.out.2.1 HN.out.2.2).mono ?_); rintro e w6 ⟨b6, A6, n6, c6, rfl, h6, q6⟩
  replace x1a := x1a.b q6
  have bw6 := bw5.trans (q6.mono bw5.size)
  have lw6 := q6.size
  clear q6 bw5
  go_wp2_with fail
  (with_reducible refine (t_plain _ (E) TD HTD.out).mono ?_); rintro e w7 ⟨rfl, hb7⟩
  have q7 := hb7.q1
  replace h6 := h6.belw q7
  replace x1a := x1a.b q7
  have x7a : Blk w7 w6.heap.size 123 #[.bool b6, .slice A6 n6 c6] := (blkAt _ _ _ (by simp)).below hb7 (by simp)
  have bw7 := bw6.trans (q7.mono bw6.size)
  have lw7 := hb7.l1
  clear q7 bw6
  go_wp2_with fail
  (with_reducible refine (parse_d _ (TD) (zd : Nat) HD.out.1 HD.out.2.1 HD.out.2.2).mono ?_); rintro e w8 ⟨b8, A8, n8, c8, rfl, h8, q8⟩
  replace h6 := h6.belw q8
  replace x1a := x1a.b q8
  replace x7a := x7a.b q8
  have bw8 := bw7.trans (q8.mono bw7.size)
  have lw8 := q8.size
  clear q8 bw7
  obtain ⟨cx7aa, cx7ab⟩ := x7a.c2
  obtain ⟨lx7aa, lx7ab, lx7ac, lx7ad⟩ := lts0 x7a.lt
  go_wp2_with fail
  (with_reducible refine (f_from_0 _ b6 A6 n6 c6 (((zn : Nat) : Int)) (130) ?_ b8 A8 n8 c8 (((zd : Nat) : Int)) (130) ?_ HZ0.out (by decide)).mono ?_); (exact (h6.belw ((Below.refl _ _).alloc (Nat.le_refl _) _)).iz); (exact (h8.belw ((Below.refl _ _).alloc (Nat.le_refl _) _)).iz); rintro e w9 ⟨b9, A9, n9, c9, A'9, n'9, c'9, rfl, h9, hb9⟩
  clear cx7aa cx7ab lx7aa lx7ab lx7ac lx7ad
  have q9 := hb9.q1
  replace h6 := h6.belw q9
  replace h8 := h8.belw q9
  replace x1a := x1a.b q9
  replace x7a := x7a.b q9
  have x9a : Blk w9 w8.heap.size 123 #[.bool b8, .slice A8 n8 c8] := (blkAt _ _ _ (by simp)).below hb9 (by simp)
  have bw9 := bw8.trans (q9.mono bw8.size)
  have lw9 := hb9.l1
  clear q9 bw8
  obtain ⟨cx1aa, cx1ab, cx1ac⟩ := x1a.c3
  obtain ⟨fx1aa, fx1ab, fx1ac⟩ := x1a.f3
  obtain ⟨lx1aa, lx1ab, lx1ac, lx1ad⟩ := lts0 x1a.lt
  go_wp2_with fail
  refine bodyPost_ret (v := .tuple #[.agg #[.bool b9, .slice A9 n9 c9, .slice A'9 n'9 c'9], .iface 63 (.int .i64 8)]) (by simp [results, Tryz.results154, go_sem, *] <;> trivial) rfl ?_
  exact ⟨_, _, _, _, _, _, _, rfl, ((h9).keep ((((Kp.refl w9).sb w.heap.size 0 x1a.box (by decide) (.bool b9)).sb w.heap.size 1 (x1a.box.set ⟨w.heap.size, 0, none⟩ (.bool b9)) (by decide) (.slice A9 n9 c9)).sb w.heap.size 2 ((x1a.box.set ⟨w.heap.size, 0, none⟩ (.bool b9)).set ⟨w.heap.size, 1, none⟩ (.slice A9 n9 c9)) (by decide) (.slice A'9 n'9 c'9))).mono (by decide), (((bw9.sc w.heap.size 0 (by omega) (.bool b9)).sc w.heap.size 1 (by omega) (.slice A9 n9 c9)).sc w.heap.size 2 (by omega) (.slice A'9 n'9 c'9))⟩
 ·have HV2 : Hid (Rat.divInt (-(zn : Int)) (zd : Int) = v) := Lib.hid HV.out
  clear HV
  go_enter Tryz.func154, Tryz.ntmps154
  go_wp2_with fail
  (with_reducible refine (t_number _ (s) hsl s.length hn).mono ?_); rintro e w1 ⟨rfl, hb1⟩
  have q1 := hb1.q1
  have x1a : Blk w1 w.heap.size 72 #[.bool false, .slice none 0 0, .slice none 0 0] := (blkAt _ _ _ (by simp)).below hb1 (by simp)
  have bw1 := (brefl w).trans (q1.mono (brefl w).size)
  have lw1 := hb1.l1
  clear q1
  go_wp2_with fail
  (with_reducible refine (cutp_v _ (s) true (D ++ 47 :: E) HH.out.1 HH.out.2).mono ?_); rintro e w2 ⟨rfl, q2⟩
  replace x1a := x1a.b q2
  have bw2 := bw1.trans (q2.mono bw1.size)
  have lw2 := q2.size
  clear q2 bw1
  go_wp2_with fail
  (with_reducible refine (cut_v _ ((D ++ 47 :: E)) 47 D E true (hmx.belw bw2) (by have := HBS.out; omega) HC1.out).mono ?_); rintro e w3 ⟨rfl, q3⟩
  replace x1a := x1a.b q3
  have bw3 := bw2.trans (q3.mono bw2.size)
  have lw3 := q3.size
  clear q3 bw2
  go_wp2_with fail
  (with_reducible refine (cut_v _ ((D ++ 47 :: E)) 46 (D ++ 47 :: E) [] false (hmx.belw bw3) (by have := HBS.out; omega) HC2.out).mono ?_); rintro e w4 ⟨rfl, q4⟩
  replace x1a := x1a.b q4
  have bw4 := bw3.trans (q4.mono bw3.size)
  have lw4 := q4.size
  clear q4 bw3
  go_wp2_with fail
  (with_reducible refine (t_plain _ (D) TN HTN.out).mono ?_); rintro e w5 ⟨rfl, q5⟩
  replace x1a := x1a.b q5
  have bw5 := bw4.trans (q5.mono bw4.size)
  have lw5 := q5.size
  clear q5 bw4
  go_wp2_with fail
  (with_reducible refine (parse_d _ (TN) (zn : Nat) HN.out.1 HN.out.2.1 HN.out.2.2).mono ?_); rintro e w6 ⟨b6, A6, n6, c6, rfl, h6, q6⟩
  replace x1a := x1a.b q6
  have bw6 := bw5.trans (q6.mono bw5.size)
  have lw6 := q6.size
  clear q6 bw5
  go_wp2_with fail
  (with_reducible refine (t_plain _ (E) TD HTD.out).mono ?_); rintro e w7 ⟨rfl, hb7⟩
  have q7 := hb7.q1
  replace h6 := h6.belw q7
  replace x1a := x1a.b q7
  have x7a : Blk w7 w6.heap.size 123 #[.bool b6, .slice A6 n6 c6] := (blkAt _ _ _ (by simp)).below hb7 (by simp)
  have bw7 := bw6.trans (q7.mono bw6.size)
  have lw7 := hb7.l1
  clear q7 bw6
  go_wp2_with fail
  (with_reducible refine (parse_d _ (TD) (zd : Nat) HD.out.1 HD.out.2.1 HD.out.2.2).mono ?_); rintro e w8 ⟨b8, A8, n8, c8, rfl, h8, q8⟩
  replace h6 := h6.belw q8
  replace x1a := x1a.b q8
  replace x7a := x7a.b q8
  have bw8 := bw7.trans (q8.mono bw7.size)
  have lw8 := q8.size
  clear q8 bw7
  obtain ⟨cx7aa, cx7ab⟩ := x7a.c2
  obtain ⟨lx7aa, lx7ab, lx7ac, lx7ad⟩ := lts0 x7a.lt
  go_wp2_with fail
  (with_reducible refine (i_neg _ b6 A6 n6 c6 (((zn : Nat) : Int)) (130) ?_ ?_).mono ?_); (exact (h6.belw ((Below.refl _ _).alloc (Nat.le_refl _) _)).iz); (omega); rintro e w9 ⟨b9, A9, n9, c9, rfl, h9, hb9⟩
  clear cx7aa cx7ab lx7aa lx7ab lx7ac lx7ad
  have q9 := hb9.q1
  replace h6 := h6.belw q9
  replace h8 := h8.belw q9
  replace x1a := x1a.b q9
  replace x7a := x7a.b q9
  have x9a : Blk w9 w8.heap.size 123 #[.bool b8, .slice A8 n8 c8] := (blkAt _ _ _ (by simp)).below hb9 (by simp)
  have bw9 := bw8.trans (q9.mono bw8.size)
  have lw9 := hb9.l1
  clear q9 bw8
  obtain ⟨cx7aa, cx7ab⟩ := x7a.c2
  have fx7a := x7a.f2
  obtain ⟨lx7aa, lx7ab, lx7ac, lx7ad⟩ := lts0 x7a.lt
  have cx9a := x9a.c2
  have lx9a := lts0 x9a.lt
  go_wp2_with fail
  clear cx7aa fx7a cx7ab lx7aa lx7ab lx7ac lx7ad cx9a lx9a
  have p10 := (((Kp.refl w9).sb w6.heap.size 0 x7a.box (by decide) (.bool b9)).sb w6.heap.size 1 (x7a.box.set ⟨w6.heap.size, 0, none⟩ (.bool b9)) (by decide) (.slice A9 n9 c9))
  have bw10 := ((bw9.sc w6.heap.size 0 (by omega) (.bool b9)).sc w6.heap.size 1 (by omega) (.slice A9 n9 c9))
  replace x1a := ((x1a.fr w6.heap.size 0 (by omega) (.bool b9)).fr w6.heap.size 1 (by omega) (.slice A9 n9 c9))
  replace x7a := ((x7a.set_at 0 (.bool b9) #[.bool b9, .slice A6 n6 c6] (by simp)).set_at 1 (.slice A9 n9 c9) #[.bool b9, .slice A9 n9 c9] (by simp))
  replace x9a := ((x9a.fr w6.heap.size 0 (by omega) (.bool b9)).fr w6.heap.size 1 (by omega) (.slice A9 n9 c9))
  have lw10 : w9.heap.size + 0 ≤ ((w9.setCell ⟨w6.heap.size, 0, none⟩ (.bool b9)).setCell ⟨w6.heap.size, 1, none⟩ (.slice A9 n9 c9)).heap.size := by simp
  generalize hE10 : ((w9.setCell ⟨w6.heap.size, 0, none⟩ (.bool b9)).setCell ⟨w6.heap.size, 1, none⟩ (.slice A9 n9 c9)) = w10 at p10 bw10 lw10 x1a x7a x9a ⊢
  clear hE10
  replace h6 := h6.keep p10
  replace h8 := h8.keep p10
  replace h9 := h9.keep p10
  clear bw9
  (with_reducible refine (f_from_0 _ b9 A9 n9 c9 (-(((zn : Nat) : Int))) ((130)) ?_ b8 A8 n8 c8 (((zd : Nat) : Int)) (130) ?_ HZ0.out (by decide)).mono ?_); (exact h9.iz); (exact h8.iz); rintro e w11 ⟨b11, A11, n11, c11, A'11, n'11, c'11, rfl, h11, q11⟩
  replace h6 := h6.belw q11
  replace h8 := h8.belw q11
  replace h9 := h9.belw q11
  replace x1a := x1a.b q11
  replace x7a := x7a.b q11
  replace x9a := x9a.b q11
  have bw11 := bw10.trans (q11.mono bw10.size)
  have lw11 := q11.size
  clear q11 bw10
  obtain ⟨cx1aa, cx1ab, cx1ac⟩ := x1a.c3
  obtain ⟨fx1aa, fx1ab, fx1ac⟩ := x1a.f3
  obtain ⟨lx1aa, lx1ab, lx1ac, lx1ad⟩ := lts0 x1a.lt
  go_wp2_with fail
  refine bodyPost_ret (v := .tuple #[.agg #[.bool b11, .slice A11 n11 c11, .slice A'11 n'11 c'11], .iface 63 (.int .i64 8)]) (by simp [results, Tryz.results154, go_sem, *] <;> trivial) rfl ?_
  exact ⟨_, _, _, _, _, _, _, rfl, ((h11).keep ((((Kp.refl w11).sb w.heap.size 0 x1a.box (by decide) (.bool b11)).sb w.heap.size 1 (x1a.box.set ⟨w.heap.size, 0, none⟩ (.bool b11)) (by decide) (.slice A11 n11 c11)).sb w.heap.size 2 ((x1a.box.set ⟨w.heap.size, 0, none⟩ (.bool b11)).set ⟨w.heap.size, 1, none⟩ (.slice A11 n11 c11)) (by decide) (.slice A'11 n'11 c'11))).mono (by decide), (((bw11.sc w.heap.size 0 (by omega) (.bool b11)).sc w.heap.size 1 (by omega) (.slice A11 n11 c11)).sc w.heap.size 2 (by omega) (.slice A'11 n'11 c'11))⟩
theorem t_value_quo (w : World) (s : List UInt8) (m : Bool) (D E : List UInt8) (hmx : Mx w) (h : s.length ≤ 60) (hn : numN s = s.length) (hD : isD D) (hE : isD E) (hs : s = sg m (D ++ 47 :: E)) (h0 : decVal E ≠ 0) : Calls Tryz.prog 154 #[strV s] w (RetFe w .nilIface (Rat.divInt (sgI m (decVal D)) (decVal E)) 130) := by
 have hszs := size_v s
 have hlen : ((60 : Int) < (s.length : Int)) = False := eq_false (by omega)
 have hhm := headM_sg (m := m) (r := (47 :: E)) hD
 have h1l : D.length + (1 + E.length) ≤ s.length := by rw [hs]; cases m <;> simp [sg] <;> omega
 have h2l : 0 < D.length := List.length_pos_iff.2 hD.1
 have hBS : (D ++ 47 :: E).length ≤ 60 := by first | omega | (simp; omega)
 rw [← hs] at hhm
 have HH := Lib.hid hhm
 have HC1 := Lib.hid (cut_at (b := E) (isD_no hD (c := 47) (by decide)))
 have HC2 := Lib.hid (cut_no (c := 46) (a := D ++ 47 :: E) (by
  intro hm
  rcases List.mem_append.1 hm with e | e
  ·exact isD_no hD (by decide) e
  ·rcases List.mem_cons.1 e with e | e
   ·exact absurd e (by decide)
   ·exact isD_no hE (by decide) e))
 have hNd : D.all isDg = true := hD.2
 obtain ⟨TN, hTN⟩ : ∃ TN, plainT D = TN := ⟨_, rfl⟩
 obtain ⟨hN1, hN2, hN3⟩ := plain_ok hNd
 rw [hTN] at hN1 hN2 hN3
 obtain ⟨zn, hzn⟩ : ∃ zn : Nat, decVal D = zn := ⟨_, rfl⟩
 rw [hzn] at hN2
 have hNl : TN.length ≤ 130 := by omega
 have HTN := Lib.hid hTN
 have HN := Lib.hid (And.intro hN1 (And.intro hN2 hNl))
 obtain ⟨TD, hTD⟩ : ∃ TD, plainT E = TD := ⟨_, rfl⟩
 obtain ⟨hM1, hM2, hM3⟩ := plain_ok hE.2
 rw [hTD] at hM1 hM2 hM3
 obtain ⟨zd, hzd⟩ : ∃ zd : Nat, decVal E = zd := ⟨_, rfl⟩
 rw [hzd] at hM2
 have hMl : TD.length ≤ 130 := by omega
 have hDz : zd < 4294967296 ^ 60 := by rw [← hzd]; exact dec_sz60 hE.2 (by omega)
 have HTD := Lib.hid hTD
 have HD := Lib.hid (And.intro hM1 (And.intro hM2 hMl))
 have hNz : zn < 4294967296 ^ 60 := by rw [← hzn]; exact dec_sz60 hNd (by omega)
 rw [hzn, hzd]
 have hzd0 : (zd : Int) ≠ 0 := by rw [hzd] at h0; omega
 obtain ⟨v, hv⟩ : ∃ v : Rat, Rat.divInt (sgI m (zn : Nat)) (zd : Nat) = v := ⟨_, rfl⟩
 rw [hv]
 have HV : Hid (Rat.divInt (sgI m (zn : Nat)) (zd : Nat) = v) := Lib.hid (hv)
 have HSZ : Hid (Sz v 130) := Lib.hid (by rw [← HV.out]; exact Sz_divInt (by rw [sgI_abs]; exact Nat.lt_trans hNz (Nat.pow_lt_pow_right (by decide) (by decide))) (by rw [Int.natAbs_natCast]; exact Nat.lt_trans hDz (Nat.pow_lt_pow_right (by decide) (by decide))) (by decide))
 have HZ0 := Lib.hid hzd0
 have hn0 : ((s.length : Int) == 0) = false := beq_eq_false_iff_ne.2 (by omega)
 have hn00 : ((s.length : Int) = 0) = False := eq_false (by omega)
 have hsl : s.length < 4611686018427387904 := by omega
 have HBS := Lib.hid hBS
 clear hs hhm hNd hTN hN1 hN2 hN3 hNl hTD hM1 hM2 hMl hNz hDz hzd0 hv hzn hzd hBS h0
 have HmD := Lib.hid hD
 clear hD
 have HmE := Lib.hid hE
 clear hE
 cases m
 ·have HV2 : Hid (Rat.divInt ((zn : Int)) (zd : Int) = v) := Lib.hid HV.out
  clear HV
  go_enter Tryz.func154, Tryz.ntmps154
  go_wp2_with fail
  (with_reducible refine (t_number _ (s) hsl s.length hn).mono ?_); rintro e w1 ⟨rfl, hb1⟩
  have q1 := hb1.q1
  have x1a : Blk w1 w.heap.size 72 #[.bool false, .slice none 0 0, .slice none 0 0] := (blkAt _ _ _ (by simp)).below hb1 (by simp)
  have bw1 := (brefl w).trans (q1.mono (brefl w).size)
  have lw1 := hb1.l1
  clear q1
  go_wp2_with fail
  (with_reducible refine (cutp_v _ (s) false (D ++ 47 :: E) HH.out.1 HH.out.2).mono ?_); rintro e w2 ⟨rfl, q2⟩
  replace x1a := x1a.b q2
  have bw2 := bw1.trans (q2.mono bw1.size)
  have lw2 := q2.size
  clear q2 bw1
  go_wp2_with fail
  (with_reducible refine (cut_v _ ((D ++ 47 :: E)) 47 D E true (hmx.belw bw2) (by have := HBS.out; omega) HC1.out).mono ?_); rintro e w3 ⟨rfl, q3⟩
  replace x1a := x1a.b q3
  have bw3 := bw2.trans (q3.mono bw2.size)
  have lw3 := q3.size
  clear q3 bw2
  go_wp2_with fail
  (with_reducible refine (cut_v _ ((D ++ 47 :: E)) 46 (D ++ 47 :: E) [] false (hmx.belw bw3) (by have := HBS.out; omega) HC2.out).mono ?_); rintro e w4 ⟨rfl, q4⟩
  replace x1a := x1a.b q4
  have bw4 := bw3.trans (q4.mono bw3.size)
  have lw4 := q4.size
  clear q4 bw3
  go_wp2_with fail
  (with_reducible refine (t_plain _ (D) TN HTN.out).mono ?_); rintro e w5 ⟨rfl, q5⟩
  replace x1a := x1a.b q5
  have bw5 := bw4.trans (q5.mono bw4.size)
  have lw5 := q5.size
  clear q5 bw4
  go_wp2_with fail
  (with_reducible refine (parse_d _ (TN) (zn : Nat) HN.out.1 HN.out.2.1 HN.out.2.2).mono ?_); rintro e w6 ⟨b6, A6, n6, c6, rfl, h6, q6⟩
  replace x1a := x1a.b q6
  have bw6 := bw5.trans (q6.mono bw5.size)
  have lw6 := q6.size
  clear q6 bw5
  go_wp2_with fail
  (with_reducible refine (t_plain _ (E) TD HTD.out).mono ?_); rintro e w7 ⟨rfl, hb7⟩
  have q7 := hb7.q1
  replace h6 := h6.belw q7
  replace x1a := x1a.b q7
  have x7a : Blk w7 w6.heap.size 123 #[.bool b6, .slice A6 n6 c6] := (blkAt _ _ _ (by simp)).below hb7 (by simp)
  have bw7 := bw6.trans (q7.mono bw6.size)
  have lw7 := hb7.l1
  clear q7 bw6
  go_wp2_with fail
  (with_reducible refine (parse_d _ (TD) (zd : Nat) HD.out.1 HD.out.2.1 HD.out.2.2).mono ?_); rintro e w8 ⟨b8, A8, n8, c8, rfl, h8, q8⟩
  replace h6 := h6.belw q8
  replace x1a := x1a.b q8
  replace x7a := x7a.b q8
  have bw8 := bw7.trans (q8.mono bw7.size)
  have lw8 := q8.size
  clear q8 bw7
  obtain ⟨cx7aa, cx7ab⟩ := x7a.c2
  obtain ⟨lx7aa, lx7ab, lx7ac, lx7ad⟩ := lts0 x7a.lt
  go_wp2_with fail
  (with_reducible refine (f_from _ b6 A6 n6 c6 (((zn : Nat) : Int)) (130) ?_ b8 A8 n8 c8 (((zd : Nat) : Int)) (130) ?_ v 130 HZ0.out HV2.out HSZ.out (by decide)).mono ?_); (exact (h6.belw ((Below.refl _ _).alloc (Nat.le_refl _) _)).iz); (exact (h8.belw ((Below.refl _ _).alloc (Nat.le_refl _) _)).iz); rintro e w9 ⟨b9, A9, n9, c9, A'9, n'9, c'9, rfl, h9, hb9⟩
  clear cx7aa cx7ab lx7aa lx7ab lx7ac lx7ad
  have q9 := hb9.q1
  replace h6 := h6.belw q9
  replace h8 := h8.belw q9
  replace x1a := x1a.b q9
  replace x7a := x7a.b q9
  have x9a : Blk w9 w8.heap.size 123 #[.bool b8, .slice A8 n8 c8] := (blkAt _ _ _ (by simp)).below hb9 (by simp)
  have bw9 := bw8.trans (q9.mono bw8.size)
  have lw9 := hb9.l1
  clear q9 bw8
  obtain ⟨cx1aa, cx1ab, cx1ac⟩ := x1a.c3
  obtain ⟨fx1aa, fx1ab, fx1ac⟩ := x1a.f3
  obtain ⟨lx1aa, lx1ab, lx1ac, lx1ad⟩ := lts0 x1a.lt
  go_wp2_with fail
  refine bodyPost_ret (v := .tuple #[.agg #[.bool b9, .slice A9 n9 c9, .slice A'9 n'9 c'9], .nilIface]) (by simp [results, Tryz.results154, go_sem, *] <;> trivial) rfl ?_
  exact ⟨_, _, _, _, _, _, _, rfl, ((h9).keep ((((Kp.refl w9).sb w.heap.size 0 x1a.box (by decide) (.bool b9)).sb w.heap.size 1 (x1a.box.set ⟨w.heap.size, 0, none⟩ (.bool b9)) (by decide) (.slice A9 n9 c9)).sb w.heap.size 2 ((x1a.box.set ⟨w.heap.size, 0, none⟩ (.bool b9)).set ⟨w.heap.size, 1, none⟩ (.slice A9 n9 c9)) (by decide) (.slice A'9 n'9 c'9))).mono (by decide), (((bw9.sc w.heap.size 0 (by omega) (.bool b9)).sc w.heap.size 1 (by omega) (.slice A9 n9 c9)).sc w.heap.size 2 (by omega) (.slice A'9 n'9 c'9))⟩
 ·have HV2 : Hid (Rat.divInt (-(zn : Int)) (zd : Int) = v) := Lib.hid HV.out
  clear HV
  go_enter Tryz.func154, Tryz.ntmps154
  go_wp2_with fail
  (with_reducible refine (t_number _ (s) hsl s.length hn).mono ?_); rintro e w1 ⟨rfl, hb1⟩
  have q1 := hb1.q1
  have x1a : Blk w1 w.heap.size 72 #[.bool false, .slice none 0 0, .slice none 0 0] := (blkAt _ _ _ (by simp)).below hb1 (by simp)
  have bw1 := (brefl w).trans (q1.mono (brefl w).size)
  have lw1 := hb1.l1
  clear q1
  go_wp2_with fail
  (with_reducible refine (cutp_v _ (s) true (D ++ 47 :: E) HH.out.1 HH.out.2).mono ?_); rintro e w2 ⟨rfl, q2⟩
  replace x1a := x1a.b q2
  have bw2 := bw1.trans (q2.mono bw1.size)
  have lw2 := q2.size
  clear q2 bw1
  go_wp2_with fail
  (with_reducible refine (cut_v _ ((D ++ 47 :: E)) 47 D E true (hmx.belw bw2) (by have := HBS.out; omega) HC1.out).mono ?_); rintro e w3 ⟨rfl, q3⟩
  replace x1a := x1a.b q3
  have bw3 := bw2.trans (q3.mono bw2.size)
  have lw3 := q3.size
  clear q3 bw2
  go_wp2_with fail
  (with_reducible refine (cut_v _ ((D ++ 47 :: E)) 46 (D ++ 47 :: E) [] false (hmx.belw bw3) (by have := HBS.out; omega) HC2.out).mono ?_); rintro e w4 ⟨rfl, q4⟩
  replace x1a := x1a.b q4
  have bw4 := bw3.trans (q4.mono bw3.size)
  have lw4 := q4.size
  clear q4 bw3
  go_wp2_with fail
  (with_reducible refine (t_plain _ (D) TN HTN.out).mono ?_); rintro e w5 ⟨rfl, q5⟩
  replace x1a := x1a.b q5
  have bw5 := bw4.trans (q5.mono bw4.size)
  have lw5 := q5.size
  clear q5 bw4
  go_wp2_with fail
  (with_reducible refine (parse_d _ (TN) (zn : Nat) HN.out.1 HN.out.2.1 HN.out.2.2).mono ?_); rintro e w6 ⟨b6, A6, n6, c6, rfl, h6, q6⟩
  replace x1a := x1a.b q6
  have bw6 := bw5.trans (q6.mono bw5.size)
  have lw6 := q6.size
  clear q6 bw5
  go_wp2_with fail
  (with_reducible refine (t_plain _ (E) TD HTD.out).mono ?_); rintro e w7 ⟨rfl, hb7⟩
  have q7 := hb7.q1
  replace h6 := h6.belw q7
  replace x1a := x1a.b q7
  have x7a : Blk w7 w6.heap.size 123 #[.bool b6, .slice A6 n6 c6] := (blkAt _ _ _ (by simp)).below hb7 (by simp)
  have bw7 := bw6.trans (q7.mono bw6.size)
  have lw7 := hb7.l1
  clear q7 bw6
  go_wp2_with fail
  (with_reducible refine (parse_d _ (TD) (zd : Nat) HD.out.1 HD.out.2.1 HD.out.2.2).mono ?_); rintro e w8 ⟨b8, A8, n8, c8, rfl, h8, q8⟩
  replace h6 := h6.belw q8
  replace x1a := x1a.b q8
  replace x7a := x7a.b q8
  have bw8 := bw7.trans (q8.mono bw7.size)
  have lw8 := q8.size
  clear q8 bw7
  obtain ⟨cx7aa, cx7ab⟩ := x7a.c2
  obtain ⟨lx7aa, lx7ab, lx7ac, lx7ad⟩ := lts0 x7a.lt
  go_wp2_with fail
  (with_reducible refine (i_neg _ b6 A6 n6 c6 (((zn : Nat) : Int)) (130) ?_ ?_).mono ?_); (exact (h6.belw ((Below.refl _ _).alloc (Nat.le_refl _) _)).iz); (omega); rintro e w9 ⟨b9, A9, n9, c9, rfl, h9, hb9⟩
  clear cx7aa cx7ab lx7aa lx7ab lx7ac lx7ad
  have q9 := hb9.q1
  replace h6 := h6.belw q9
  replace h8 := h8.belw q9
  replace x1a := x1a.b q9
  replace x7a := x7a.b q9
  have x9a : Blk w9 w8.heap.size 123 #[.bool b8, .slice A8 n8 c8] := (blkAt _ _ _ (by simp)).below hb9 (by simp)
  have bw9 := bw8.trans (q9.mono bw8.size)
  have lw9 := hb9.l1
  clear q9 bw8
  obtain ⟨cx7aa, cx7ab⟩ := x7a.c2
  have fx7a := x7a.f2
  obtain ⟨lx7aa, lx7ab, lx7ac, lx7ad⟩ := lts0 x7a.lt
  have cx9a := x9a.c2
  have lx9a := lts0 x9a.lt
  go_wp2_with fail
  clear cx7aa fx7a cx7ab lx7aa lx7ab lx7ac lx7ad cx9a lx9a
  have p10 := (((Kp.refl w9).sb w6.heap.size 0 x7a.box (by decide) (.bool b9)).sb w6.heap.size 1 (x7a.box.set ⟨w6.heap.size, 0, none⟩ (.bool b9)) (by decide) (.slice A9 n9 c9))
  have bw10 := ((bw9.sc w6.heap.size 0 (by omega) (.bool b9)).sc w6.heap.size 1 (by omega) (.slice A9 n9 c9))
  replace x1a := ((x1a.fr w6.heap.size 0 (by omega) (.bool b9)).fr w6.heap.size 1 (by omega) (.slice A9 n9 c9))
  replace x7a := ((x7a.set_at 0 (.bool b9) #[.bool b9, .slice A6 n6 c6] (by simp)).set_at 1 (.slice A9 n9 c9) #[.bool b9, .slice A9 n9 c9] (by simp))
  replace x9a := ((x9a.fr w6.heap.size 0 (by omega) (.bool b9)).fr w6.heap.size 1 (by omega) (.slice A9 n9 c9))
  have lw10 : w9.heap.size + 0 ≤ ((w9.setCell ⟨w6.heap.size, 0, none⟩ (.bool b9)).setCell ⟨w6.heap.size, 1, none⟩ (.slice A9 n9 c9)).heap.size := by simp
  generalize hE10 : ((w9.setCell ⟨w6.heap.size, 0, none⟩ (.bool b9)).setCell ⟨w6.heap.size, 1, none⟩ (.slice A9 n9 c9)) = w10 at p10 bw10 lw10 x1a x7a x9a ⊢
  clear hE10
  replace h6 := h6.keep p10
  replace h8 := h8.keep p10
  replace h9 := h9.keep p10
  clear bw9
  (with_reducible refine (f_from _ b9 A9 n9 c9 (-(((zn : Nat) : Int))) ((130)) ?_ b8 A8 n8 c8 (((zd : Nat) : Int)) (130) ?_ v 130 HZ0.out HV2.out HSZ.out (by decide)).mono ?_); (exact h9.iz); (exact h8.iz); rintro e w11 ⟨b11, A11, n11, c11, A'11, n'11, c'11, rfl, h11, q11⟩
  replace h6 := h6.belw q11
  replace h8 := h8.belw q11
  replace h9 := h9.belw q11
  replace x1a := x1a.b q11
  replace x7a := x7a.b q11
  replace x9a := x9a.b q11
  have bw11 := bw10.trans (q11.mono bw10.size)
  have lw11 := q11.size
  clear q11 bw10
  obtain ⟨cx1aa, cx1ab, cx1ac⟩ := x1a.c3
  obtain ⟨fx1aa, fx1ab, fx1ac⟩ := x1a.f3
  obtain ⟨lx1aa, lx1ab, lx1ac, lx1ad⟩ := lts0 x1a.lt
  go_wp2_with fail
  refine bodyPost_ret (v := .tuple #[.agg #[.bool b11, .slice A11 n11 c11, .slice A'11 n'11 c'11], .nilIface]) (by simp [results, Tryz.results154, go_sem, *] <;> trivial) rfl ?_
  exact ⟨_, _, _, _, _, _, _, rfl, ((h11).keep ((((Kp.refl w11).sb w.heap.size 0 x1a.box (by decide) (.bool b11)).sb w.heap.size 1 (x1a.box.set ⟨w.heap.size, 0, none⟩ (.bool b11)) (by decide) (.slice A11 n11 c11)).sb w.heap.size 2 ((x1a.box.set ⟨w.heap.size, 0, none⟩ (.bool b11)).set ⟨w.heap.size, 1, none⟩ (.slice A11 n11 c11)) (by decide) (.slice A'11 n'11 c'11))).mono (by decide), (((bw11.sc w.heap.size 0 (by omega) (.bool b11)).sc w.heap.size 1 (by omega) (.slice A11 n11 c11)).sc w.heap.size 2 (by omega) (.slice A'11 n'11 c'11))⟩
theorem t_value_dot (w : World) (s : List UInt8) (m : Bool) (D E : List UInt8) (hmx : Mx w) (h : s.length ≤ 60) (hn : numN s = s.length) (hD : isD D) (hE : isD E) (hs : s = sg m (D ++ 46 :: E)) : Calls Tryz.prog 154 #[strV s] w (RetFe w .nilIface (Rat.divInt (sgI m (decVal (D ++ E))) ((10 ^ E.length : Nat) : Int)) 130) := by
 have hszs := size_v s
 have hlen : ((60 : Int) < (s.length : Int)) = False := eq_false (by omega)
 have hhm := headM_sg (m := m) (r := (46 :: E)) hD
 have h1l : D.length + (1 + E.length) ≤ s.length := by rw [hs]; cases m <;> simp [sg] <;> omega
 have h2l : 0 < D.length := List.length_pos_iff.2 hD.1
 have hBS : (D ++ 46 :: E).length ≤ 60 := by first | omega | (simp; omega)
 rw [← hs] at hhm
 have HH := Lib.hid hhm
 have HC2 := Lib.hid (cut_at (b := E) (isD_no hD (c := 46) (by decide)))
 have HC1 := Lib.hid (cut_no (c := 47) (a := D ++ 46 :: E) (by
  intro hm
  rcases List.mem_append.1 hm with e | e
  ·exact isD_no hD (by decide) e
  ·rcases List.mem_cons.1 e with e | e
   ·exact absurd e (by decide)
   ·exact isD_no hE (by decide) e))
 have hNd : (D ++ E).all isDg = true := by rw [List.all_append, hD.2, hE.2]; rfl
 obtain ⟨TN, hTN⟩ : ∃ TN, plainT (D ++ E) = TN := ⟨_, rfl⟩
 obtain ⟨hN1, hN2, hN3⟩ := plain_ok hNd
 rw [hTN] at hN1 hN2 hN3
 obtain ⟨zn, hzn⟩ : ∃ zn : Nat, decVal (D ++ E) = zn := ⟨_, rfl⟩
 rw [hzn] at hN2
 have hNl : TN.length ≤ 130 := by have : (D ++ E).length = D.length + E.length := List.length_append; omega
 have HTN := Lib.hid hTN
 have HN := Lib.hid (And.intro hN1 (And.intro hN2 hNl))
 obtain ⟨Z, hZ⟩ : ∃ Z : List UInt8, List.replicate E.length 48 = Z := ⟨_, rfl⟩
 obtain ⟨TD, hTD⟩ : ∃ TD, plainT (49 :: Z) = TD := ⟨_, rfl⟩
 obtain ⟨t1, t2, t3⟩ := ten_pow_val E.length
 obtain ⟨hM1, hM2, hM3⟩ := plain_ok t3
 rw [hZ] at t1 t2 hM1 hM2 hM3
 rw [hTD] at hM1 hM2 hM3
 obtain ⟨zd, hzd⟩ : ∃ zd : Nat, 10 ^ E.length = zd := ⟨_, rfl⟩
 rw [t2, hzd] at hM2
 have hZl : Z.length = E.length := by rw [← hZ]; simp
 have hMl : TD.length ≤ 130 := by rw [List.length_cons] at hM3; omega
 have hDz : zd < 4294967296 ^ 60 := by
  rw [← hzd]
  have h2 : (10 : Nat) ^ E.length ≤ 10 ^ 60 := Nat.pow_le_pow_right (by decide) (by omega)
  have h3 : (10 : Nat) ^ 60 < 4294967296 ^ 60 := by decide
  omega
 have ha1 := app_v D E
 have ha2 := app_v [49] Z
 have hk1 : (9223372036854775807 < D.length + E.length) = False := eq_false (by omega)
 have hk2 : (9223372036854775807 < 1 + Z.length) = False := eq_false (by omega)
 have HZ := Lib.hid hZ
 clear hZ t1 t2 t3
 have HTD := Lib.hid hTD
 have HD := Lib.hid (And.intro hM1 (And.intro hM2 hMl))
 have hNz : zn < 4294967296 ^ 60 := by rw [← hzn]; exact dec_sz60 hNd (by have : (D ++ E).length = D.length + E.length := List.length_append; omega)
 rw [hzn, hzd]
 have hzd0 : (zd : Int) ≠ 0 := by rw [← hzd]; have := Nat.pow_pos (n := E.length) (show 0 < 10 by decide); omega
 obtain ⟨v, hv⟩ : ∃ v : Rat, Rat.divInt (sgI m (zn : Nat)) (zd : Nat) = v := ⟨_, rfl⟩
 rw [hv]
 have HV : Hid (Rat.divInt (sgI m (zn : Nat)) (zd : Nat) = v) := Lib.hid (hv)
 have HSZ : Hid (Sz v 130) := Lib.hid (by rw [← HV.out]; exact Sz_divInt (by rw [sgI_abs]; exact Nat.lt_trans hNz (Nat.pow_lt_pow_right (by decide) (by decide))) (by rw [Int.natAbs_natCast]; exact Nat.lt_trans hDz (Nat.pow_lt_pow_right (by decide) (by decide))) (by decide))
 have HZ0 := Lib.hid hzd0
 have hn0 : ((s.length : Int) == 0) = false := beq_eq_false_iff_ne.2 (by omega)
 have hn00 : ((s.length : Int) = 0) = False := eq_false (by omega)
 have hsl : s.length < 4611686018427387904 := by omega
 have HBS := Lib.hid hBS
 clear hs hhm hNd hTN hN1 hN2 hN3 hNl hTD hM1 hM2 hMl hNz hDz hzd0 hv hzn hzd hBS
 have HmD := Lib.hid hD
 clear hD
 have HmE := Lib.hid hE
 clear hE
 cases m
 ·have HV2 : Hid (Rat.divInt ((zn : Int)) (zd : Int) = v) := Lib.hid HV.out
  clear HV
  go_enter Tryz.func154, Tryz.ntmps154
  go_wp2_with fail
  (with_reducible refine (t_number _ (s) hsl s.length hn).mono ?_); rintro e w1 ⟨rfl, hb1⟩
  have q1 := hb1.q1
  have x1a : Blk w1 w.heap.size 72 #[.bool false, .slice none 0 0, .slice none 0 0] := (blkAt _ _ _ (by simp)).below hb1 (by simp)
  have bw1 := (brefl w).trans (q1.mono (brefl w).size)
  have lw1 := hb1.l1
  clear q1
  go_wp2_with fail
  (with_reducible refine (cutp_v _ (s) false (D ++ 46 :: E) HH.out.1 HH.out.2).mono ?_); rintro e w2 ⟨rfl, q2⟩
  replace x1a := x1a.b q2
  have bw2 := bw1.trans (q2.mono bw1.size)
  have lw2 := q2.size
  clear q2 bw1
  go_wp2_with fail
  (with_reducible refine (cut_v _ ((D ++ 46 :: E)) 47 (D ++ 46 :: E) [] false (hmx.belw bw2) (by have := HBS.out; omega) HC1.out).mono ?_); rintro e w3 ⟨rfl, q3⟩
  replace x1a := x1a.b q3
  have bw3 := bw2.trans (q3.mono bw2.size)
  have lw3 := q3.size
  clear q3 bw2
  go_wp2_with fail
  (with_reducible refine (cut_v _ ((D ++ 46 :: E)) 46 D E true (hmx.belw bw3) (by have := HBS.out; omega) HC2.out).mono ?_); rintro e w4 ⟨rfl, q4⟩
  replace x1a := x1a.b q4
  have bw4 := bw3.trans (q4.mono bw3.size)
  have lw4 := q4.size
  clear q4 bw3
  go_wp2_with fail
  (with_reducible refine (rep_v _ E.length (by omega) Z HZ.out).mono ?_); rintro e w5 ⟨rfl, q5⟩
  replace x1a := x1a.b q5
  have bw5 := bw4.trans (q5.mono bw4.size)
  have lw5 := q5.size
  clear q5 bw4
  go_wp2_with fail
  (with_reducible refine (t_plain _ ((D ++ E)) TN HTN.out).mono ?_); rintro e w6 ⟨rfl, q6⟩
  replace x1a := x1a.b q6
  have bw6 := bw5.trans (q6.mono bw5.size)
  have lw6 := q6.size
  clear q6 bw5
  go_wp2_with fail
  (with_reducible refine (parse_d _ (TN) (zn : Nat) HN.out.1 HN.out.2.1 HN.out.2.2).mono ?_); rintro e w7 ⟨b7, A7, n7, c7, rfl, h7, q7⟩
  replace x1a := x1a.b q7
  have bw7 := bw6.trans (q7.mono bw6.size)
  have lw7 := q7.size
  clear q7 bw6
  go_wp2_with fail
  (with_reducible refine (t_plain _ ((49 :: Z)) TD HTD.out).mono ?_); rintro e w8 ⟨rfl, hb8⟩
  have q8 := hb8.q1
  replace h7 := h7.belw q8
  replace x1a := x1a.b q8
  have x8a : Blk w8 w7.heap.size 123 #[.bool b7, .slice A7 n7 c7] := (blkAt _ _ _ (by simp)).below hb8 (by simp)
  have bw8 := bw7.trans (q8.mono bw7.size)
  have lw8 := hb8.l1
  clear q8 bw7
  go_wp2_with fail
  (with_reducible refine (parse_d _ (TD) (zd : Nat) HD.out.1 HD.out.2.1 HD.out.2.2).mono ?_); rintro e w9 ⟨b9, A9, n9, c9, rfl, h9, q9⟩
  replace h7 := h7.belw q9
  replace x1a := x1a.b q9
  replace x8a := x8a.b q9
  have bw9 := bw8.trans (q9.mono bw8.size)
  have lw9 := q9.size
  clear q9 bw8
  obtain ⟨cx8aa, cx8ab⟩ := x8a.c2
  obtain ⟨lx8aa, lx8ab, lx8ac, lx8ad⟩ := lts0 x8a.lt
  go_wp2_with fail
  (with_reducible refine (f_from _ b7 A7 n7 c7 (((zn : Nat) : Int)) (130) ?_ b9 A9 n9 c9 (((zd : Nat) : Int)) (130) ?_ v 130 HZ0.out HV2.out HSZ.out (by decide)).mono ?_); (exact (h7.belw ((Below.refl _ _).alloc (Nat.le_refl _) _)).iz); (exact (h9.belw ((Below.refl _ _).alloc (Nat.le_refl _) _)).iz); rintro e w10 ⟨b10, A10, n10, c10, A'10, n'10, c'10, rfl, h10, hb10⟩
  clear cx8aa cx8ab lx8aa lx8ab lx8ac lx8ad
  have q10 := hb10.q1
  replace h7 := h7.belw q10
  replace h9 := h9.belw q10
  replace x1a := x1a.b q10
  replace x8a := x8a.b q10
  have x10a : Blk w10 w9.heap.size 123 #[.bool b9, .slice A9 n9 c9] := (blkAt _ _ _ (by simp)).below hb10 (by simp)
  have bw10 := bw9.trans (q10.mono bw9.size)
  have lw10 := hb10.l1
  clear q10 bw9
  obtain ⟨cx1aa, cx1ab, cx1ac⟩ := x1a.c3
  obtain ⟨fx1aa, fx1ab, fx1ac⟩ := x1a.f3
  obtain ⟨lx1aa, lx1ab, lx1ac, lx1ad⟩ := lts0 x1a.lt
  go_wp2_with fail
  refine bodyPost_ret (v := .tuple #[.agg #[.bool b10, .slice A10 n10 c10, .slice A'10 n'10 c'10], .nilIface]) (by simp [results, Tryz.results154, go_sem, *] <;> trivial) rfl ?_
  exact ⟨_, _, _, _, _, _, _, rfl, ((h10).keep ((((Kp.refl w10).sb w.heap.size 0 x1a.box (by decide) (.bool b10)).sb w.heap.size 1 (x1a.box.set ⟨w.heap.size, 0, none⟩ (.bool b10)) (by decide) (.slice A10 n10 c10)).sb w.heap.size 2 ((x1a.box.set ⟨w.heap.size, 0, none⟩ (.bool b10)).set ⟨w.heap.size, 1, none⟩ (.slice A10 n10 c10)) (by decide) (.slice A'10 n'10 c'10))).mono (by decide), (((bw10.sc w.heap.size 0 (by omega) (.bool b10)).sc w.heap.size 1 (by omega) (.slice A10 n10 c10)).sc w.heap.size 2 (by omega) (.slice A'10 n'10 c'10))⟩
 ·have HV2 : Hid (Rat.divInt (-(zn : Int)) (zd : Int) = v) := Lib.hid HV.out
  clear HV
  go_enter Tryz.func154, Tryz.ntmps154
  go_wp2_with fail
  (with_reducible refine (t_number _ (s) hsl s.length hn).mono ?_); rintro e w1 ⟨rfl, hb1⟩
  have q1 := hb1.q1
  have x1a : Blk w1 w.heap.size 72 #[.bool false, .slice none 0 0, .slice none 0 0] := (blkAt _ _ _ (by simp)).below hb1 (by simp)
  have bw1 := (brefl w).trans (q1.mono (brefl w).size)
  have lw1 := hb1.l1
  clear q1
  go_wp2_with fail
  (with_reducible refine (cutp_v _ (s) true (D ++ 46 :: E) HH.out.1 HH.out.2).mono ?_); rintro e w2 ⟨rfl, q2⟩
  replace x1a := x1a.b q2
  have bw2 := bw1.trans (q2.mono bw1.size)
  have lw2 := q2.size
  clear q2 bw1
  go_wp2_with fail
  (with_reducible refine (cut_v _ ((D ++ 46 :: E)) 47 (D ++ 46 :: E) [] false (hmx.belw bw2) (by have := HBS.out; omega) HC1.out).mono ?_); rintro e w3 ⟨rfl, q3⟩
  replace x1a := x1a.b q3
  have bw3 := bw2.trans (q3.mono bw2.size)
  have lw3 := q3.size
  clear q3 bw2
  go_wp2_with fail
  (with_reducible refine (cut_v _ ((D ++ 46 :: E)) 46 D E true (hmx.belw bw3) (by have := HBS.out; omega) HC2.out).mono ?_); rintro e w4 ⟨rfl, q4⟩
  replace x1a := x1a.b q4
  have bw4 := bw3.trans (q4.mono bw3.size)
  have lw4 := q4.size
  clear q4 bw3
  go_wp2_with fail
  (with_reducible refine (rep_v _ E.length (by omega) Z HZ.out).mono ?_); rintro e w5 ⟨rfl, q5⟩
  replace x1a := x1a.b q5
  have bw5 := bw4.trans (q5.mono bw4.size)
  have lw5 := q5.size
  clear q5 bw4
  go_wp2_with fail
  (with_reducible refine (t_plain _ ((D ++ E)) TN HTN.out).mono ?_); rintro e w6 ⟨rfl, q6⟩
  replace x1a := x1a.b q6
  have bw6 := bw5.trans (q6.mono bw5.size)
  have lw6 := q6.size
  clear q6 bw5
  go_wp2_with fail
  (with_reducible refine (parse_d _ (TN) (zn : Nat) HN.out.1 HN.out.2.1 HN.out.2.2).mono ?_); rintro e w7 ⟨b7, A7, n7, c7, rfl, h7, q7⟩
  replace x1a := x1a.b q7
  have bw7 := bw6.trans (q7.mono bw6.size)
  have lw7 := q7.size
  clear q7 bw6
  go_wp2_with fail
  (with_reducible refine (t_plain _ ((49 :: Z)) TD HTD.out).mono ?_); rintro e w8 ⟨rfl, hb8⟩
  have q8 := hb8.q1
  replace h7 := h7.belw q8
  replace x1a := x1a.b q8
  have x8a : Blk w8 w7.heap.size 123 #[.bool b7, .slice A7 n7 c7] := (blkAt _ _ _ (by simp)).below hb8 (by simp)
  have bw8 := bw7.trans (q8.mono bw7.size)
  have lw8 := hb8.l1
  clear q8 bw7
  go_wp2_with fail
  (with_reducible refine (parse_d _ (TD) (zd : Nat) HD.out.1 HD.out.2.1 HD.out.2.2).mono ?_); rintro e w9 ⟨b9, A9, n9, c9, rfl, h9, q9⟩
  replace h7 := h7.belw q9
  replace x1a := x1a.b q9
  replace x8a := x8a.b q9
  have bw9 := bw8.trans (q9.mono bw8.size)
  have lw9 := q9.size
  clear q9 bw8
  obtain ⟨cx8aa, cx8ab⟩ := x8a.c2
  obtain ⟨lx8aa, lx8ab, lx8ac, lx8ad⟩ := lts0 x8a.lt
  go_wp2_with fail
  (with_reducible refine (i_neg _ b7 A7 n7 c7 (((zn : Nat) : Int)) (130) ?_ ?_).mono ?_); (exact (h7.belw ((Below.refl _ _).alloc (Nat.le_refl _) _)).iz); (omega); rintro e w10 ⟨b10, A10, n10, c10, rfl, h10, hb10⟩
  clear cx8aa cx8ab lx8aa lx8ab lx8ac lx8ad
  have q10 := hb10.q1
  replace h7 := h7.belw q10
  replace h9 := h9.belw q10
  replace x1a := x1a.b q10
  replace x8a := x8a.b q10
  have x10a : Blk w10 w9.heap.size 123 #[.bool b9, .slice A9 n9 c9] := (blkAt _ _ _ (by simp)).below hb10 (by simp)
  have bw10 := bw9.trans (q10.mono bw9.size)
  have lw10 := hb10.l1
  clear q10 bw9
  obtain ⟨cx8aa, cx8ab⟩ := x8a.c2
  have fx8a := x8a.f2
  obtain ⟨lx8aa, lx8ab, lx8ac, lx8ad⟩ := lts0 x8a.lt
  have cx10a := x10a.c2
  have lx10a := lts0 x10a.lt
  go_wp2_with fail
  clear cx8aa fx8a cx8ab lx8aa lx8ab lx8ac lx8ad cx10a lx10a
  have p11 := (((Kp.refl w10).sb w7.heap.size 0 x8a.box (by decide) (.bool b10)).sb w7.heap.size 1 (x8a.box.set ⟨w7.heap.size, 0, none⟩ (.bool b10)) (by decide) (.slice A10 n10 c10))
  have bw11 := ((bw10.sc w7.heap.size 0 (by omega) (.bool b10)).sc w7.heap.size 1 (by omega) (.slice A10 n10 c10))
  replace x1a := ((x1a.fr w7.heap.size 0 (by omega) (.bool b10)).fr w7.heap.size 1 (by omega) (.slice A10 n10 c10))
  replace x8a := ((x8a.set_at 0 (.bool b10) #[.bool b10, .slice A7 n7 c7] (by simp)).set_at 1 (.slice A10 n10 c10) #[.bool b10, .slice A10 n10 c10] (by simp))
  replace x10a := ((x10a.fr w7.heap.size 0 (by omega) (.bool b10)).fr w7.heap.size 1 (by omega) (.slice A10 n10 c10))
  have lw11 : w10.heap.size + 0 ≤ ((w10.setCell ⟨w7.heap.size, 0, none⟩ (.bool b10)).setCell ⟨w7.heap.size, 1, none⟩ (.slice A10 n10 c10)).heap.size := by simp
  generalize hE11 : ((w10.setCell ⟨w7.heap.size, 0, none⟩ (.bool b10)).setCell ⟨w7.heap.size, 1, none⟩ (.slice A10 n10 c10)) = w11 at p11 bw11 lw11 x1a x8a x10a ⊢
  clear hE11
  replace h7 := h7.keep p11
  replace h9 := h9.keep p11
  replace h10 := h10.keep p11
  clear bw10
  (with_reducible refine (f_from _ b10 A10 n10 c10 (-(((zn : Nat) : Int))) ((130)) ?_ b9 A9 n9 c9 (((zd : Nat) : Int)) (130) ?_ v 130 HZ0.out HV2.out HSZ.out (by decide)).mono ?_); (exact h10.iz); (exact h9.iz); rintro e w12 ⟨b12, A12, n12, c12, A'12, n'12, c'12, rfl, h12, q12⟩
  replace h7 := h7.belw q12
  replace h9 := h9.belw q12
  replace h10 := h10.belw q12
  replace x1a := x1a.b q12
  replace x8a := x8a.b q12
  replace x10a := x10a.b q12
  have bw12 := bw11.trans (q12.mono bw11.size)
  have lw12 := q12.size
  clear q12 bw11
  obtain ⟨cx1aa, cx1ab, cx1ac⟩ := x1a.c3
  obtain ⟨fx1aa, fx1ab, fx1ac⟩ := x1a.f3
  obtain ⟨lx1aa, lx1ab, lx1ac, lx1ad⟩ := lts0 x1a.lt
  go_wp2_with fail
  refine bodyPost_ret (v := .tuple #[.agg #[.bool b12, .slice A12 n12 c12, .slice A'12 n'12 c'12], .nilIface]) (by simp [results, Tryz.results154, go_sem, *] <;> trivial) rfl ?_
  exact ⟨_, _, _, _, _, _, _, rfl, ((h12).keep ((((Kp.refl w12).sb w.heap.size 0 x1a.box (by decide) (.bool b12)).sb w.heap.size 1 (x1a.box.set ⟨w.heap.size, 0, none⟩ (.bool b12)) (by decide) (.slice A12 n12 c12)).sb w.heap.size 2 ((x1a.box.set ⟨w.heap.size, 0, none⟩ (.bool b12)).set ⟨w.heap.size, 1, none⟩ (.slice A12 n12 c12)) (by decide) (.slice A'12 n'12 c'12))).mono (by decide), (((bw12.sc w.heap.size 0 (by omega) (.bool b12)).sc w.heap.size 1 (by omega) (.slice A12 n12 c12)).sc w.heap.size 2 (by omega) (.slice A'12 n'12 c'12))⟩
end Go.Proofs.YtoiijifnfdgfpaaGreatDoor

/- Walks: tokens: what opens the laws. -/
namespace Go.Proofs.YtoiijifnfdgfpaaGreatDoor
open Go Go.RowKit Bn
attribute [local go_sem ↓] Go.wp_at_zero Go.wp_at_succ
theorem errV_88 : errV 8 = .iface 63 (.int .i64 8) := if_neg (by decide)
theorem t_value_o (w : World) (s : List UInt8) (x : Int) (q : Rat) (hmx : Mx w) (h : ValOut s x q) : Calls Tryz.prog 154 #[strV s] w (RetFe w (errV x) q 130) := by
  have hm : ∀ {v : Value} {e : Ending} {w' : World}, RetFe w v q 1 e w' → RetFe w v q 130 e w' := fun h => by
    obtain ⟨b, A, n, c, A', n', c', h1, h2, h3⟩ := h
    exact ⟨b, A, n, c, A', n', c', h1, h2.mono (by decide), h3⟩
  rcases h with ⟨h, rfl, rfl⟩ | ⟨h, hb, rfl, rfl⟩ | ⟨m, D, h, hn, hD, hs, rfl, rfl⟩ | ⟨m, D, E, h, hn, hD, hE, hs, h0, rfl, rfl⟩ | ⟨m, D, E, h, hn, hD, hE, hs, h0, rfl, rfl⟩ | ⟨m, D, E, h, hn, hD, hE, hs, rfl, rfl⟩
  · rw [errV_4]; exact (t_value_large w s h).mono fun _ _ r => hm r
  · rw [errV_2]; exact (t_value_bad w s h hb).mono fun _ _ r => hm r
  · rw [errV_0]; exact t_value_whole w s m D hmx h hn hD hs
  · rw [errV_88]; exact t_value_quo0 w s m D E hmx h hn hD hE hs h0
  · rw [errV_0]; exact t_value_quo w s m D E hmx h hn hD hE hs h0
  · rw [errV_0]; exact t_value_dot w s m D E hmx h hn hD hE hs
theorem t_split_x (w : World) (s : List UInt8) (x : Int) (l : List Tkn) (h : SplitOut s x l) : Calls Tryz.prog 23 #[strV s] w (RetTks w (errV x) l) :=
  (t_split w s).mono fun _ _ ⟨x', l', h', r⟩ => by
    obtain ⟨rfl, rfl⟩ := h.uniq h'
    exact r
end Go.Proofs.YtoiijifnfdgfpaaGreatDoor
