/- Part A5: lemmas and walks that the claim rests on. No claim is made here. -/
import Derived.Deep.RegionHeld3
import Derived.BigQuiet
import Derived.Deep.DrawnRows
import Derived.Laws.StructEq
import Derived.Test.YtoiijifnfdgfpaaGreatDoorCards
import Derived.Test.YtoiijifnfdgfpaaGreatDoorTie
import Derived.ProofKit
import Derived.WalkKit
import Derived.OpenShut
import Derived.Deep.DeepHandedRow
import Derived.Lib.LaidTab
import Derived.Shelf.Vars
import Derived.Test.YtoiijifnfdgfpaaGreatDoorA4
set_option linter.unusedVariables false
set_option maxHeartbeats 8000000
set_option maxRecDepth 100000
/- Walks: parse.Body. -/
namespace Go.Proofs.YtoiijifnfdgfpaaGreatDoor
open Go Go.RowKit Bn
attribute [local go_sem ↓] Go.wp_at_zero Go.wp_at_succ
noncomputable def readB (l : List Tkn) : BodyL × PS :=
  let b := ((⟨l, L0, 0⟩ : PS).expect 0 wBody).body
  (b.1, if b.2.x = 0 ∧ b.2.toks ≠ [] then b.2.fail 2 else b.2)
def B0 : BodyL := ⟨[], []⟩
inductive BodyOut (s : List UInt8) (x : Int) (b : BodyL) : Prop
  | split (l : List Tkn) (hs : SplitOut s x l) (hx : x ≠ 0) (hb : b = B0)
  | read (l : List Tkn) (hs : SplitOut s 0 l) (hr : (readB l).2.x = x) (hx : x ≠ 0) (hb : b = B0)
  | ok (l : List Tkn) (hs : SplitOut s 0 l) (hr : (readB l).2.x = 0) (hx : x = 0) (hb : b = (readB l).1)
theorem BodyOut.uniq {s : List UInt8} {x y : Int} {b d : BodyL} (h : BodyOut s x b) (h' : BodyOut s y d) : x = y ∧ b = d := by
  cases h with
  | split l hs hx hL =>
    cases h' with
    | split l' hs' hx' hL' => exact ⟨(hs.uniq hs').1, by rw [hL, hL']⟩
    | read l' hs' _ _ _ => exact absurd (hs.uniq hs').1 hx
    | ok l' hs' _ _ _ => exact absurd (hs.uniq hs').1 hx
  | read l hs hr hx hL =>
    cases h' with
    | split l' hs' hx' hL' => exact absurd (hs.uniq hs').1.symm hx'
    | read l' hs' hr' hx' hL' =>
      obtain ⟨_, rfl⟩ := hs.uniq hs'
      exact ⟨hr.symm.trans hr', by rw [hL, hL']⟩
    | ok l' hs' hr' _ _ =>
      obtain ⟨_, rfl⟩ := hs.uniq hs'
      exact absurd (hr.symm.trans hr') hx
  | ok l hs hr hx hL =>
    cases h' with
    | split l' hs' hx' hL' => exact absurd (hs.uniq hs').1.symm hx'
    | read l' hs' hr' hx' hL' =>
      obtain ⟨_, rfl⟩ := hs.uniq hs'
      exact absurd (hr'.symm.trans hr) hx'
    | ok l' hs' hr' hx' hL' =>
      obtain ⟨_, rfl⟩ := hs.uniq hs'
      exact ⟨by rw [hx, hx'], by rw [hL, hL']⟩
end Go.Proofs.YtoiijifnfdgfpaaGreatDoor

/- Reading what was printed, plain: a linkage's text is read as the linkage. -/
namespace Go.Proofs.YtoiijifnfdgfpaaGreatDoor
open Go Go.RowKit Bn
/-! The tokens of a linkage. -/
def markK (m : MarkL) : List (Nat × List UInt8) := [(0, m.name), (1, ratText m.x.q), (1, ratText m.y.q), (2, [59])]
def bodyK (b : BodyL) : List (Nat × List UInt8) := (0, wBody) :: (0, b.name) :: (2, [123]) :: (b.pts.flatMap markK ++ [(2, [125])])
def fullK (bs : List BodyL) (i j : Int) : List (Nat × List UInt8) := match bs[i.toNat]? with
  | some b => (match b.pts[j.toNat]? with | some m => [(0, b.name), (2, [46]), (0, m.name)] | none => [])
  | none => []
def jointK (bs : List BodyL) (j : JointL) : List (Nat × List UInt8) :=
  (0, if j.kind = 1 then wSlide else wPin) :: (0, j.name) :: (fullK bs j.a j.point ++ (fullK bs j.b j.on ++ ((if j.kind = 1 then fullK bs j.b j.to_ else []) ++ [(2, [59])])))
def driverK (bs : List BodyL) (d : DriverL) : List (Nat × List UInt8) := [(0, wDriver), (0, d.name), (0, nameT bs d.body), (2, [59])]
def lkToks (L : LinkL) : List (Nat × List UInt8) := (0, wLinkage) :: (0, L.name) :: (2, [59]) :: (L.bodies.flatMap bodyK ++ (L.joints.flatMap (jointK L.bodies) ++ L.drivers.flatMap (driverK L.bodies)))
theorem fullK_v {bs : List BodyL} {i j : Nat} {b : BodyL} {m : MarkL} (hb : bs[i]? = some b) (hm : b.pts[j]? = some m) : fullK bs (i : Nat) (j : Nat) = [(0, b.name), (2, [46]), (0, m.name)] := by
  unfold fullK
  show (match bs[i]? with | some b => (match b.pts[j]? with | some m => [(0, b.name), (2, [46]), (0, m.name)] | none => []) | none => []) = _
  rw [hb]
  show (match b.pts[j]? with | some m => [(0, b.name), (2, [46]), (0, m.name)] | none => []) = _
  rw [hm]
/-! Splitting. -/
theorem hd_c {p : UInt8 → Prop} {c : UInt8} {t : List UInt8} (h : p c) : ∀ c' t', c :: t = c' :: t' → p c' := fun c' t' e => by injection e with e _; subst e; exact h
def MkN (m : MarkL) : Prop := (ratText m.x.q).length ≤ 60 ∧ (ratText m.y.q).length ≤ 60
theorem Spl.mark {m : MarkL} {s : List UInt8} {K : List (Nat × List UInt8)} (hm : nameOk m.name = true) (hn : MkN m) (h : Spl s K) : Spl (markText m ++ s) (markK m ++ K) := by
  unfold markText markK
  simp only [List.cons_append, List.append_assoc, List.nil_append]
  exact .blank (.word hm (hd_c (by decide)) (.blank (.num hn.1 (hd_c (.inl rfl)) (.blank (.num hn.2 (hd_c (.inr rfl)) (.sign (by decide) h))))))
theorem Spl.marks {s : List UInt8} {K : List (Nat × List UInt8)} (h : Spl s K) : ∀ {l : List MarkL}, (∀ m ∈ l, nameOk m.name = true ∧ MkN m) → Spl (l.flatMap markText ++ s) (l.flatMap markK ++ K)
  | [], _ => h
  | m :: l, hl => by
    rw [List.flatMap_cons, List.flatMap_cons, List.append_assoc, List.append_assoc]
    have := hl m (by simp)
    exact .mark this.1 this.2 (Spl.marks h fun x hx => hl x (by simp [hx]))
theorem Spl.body {b : BodyL} {s : List UInt8} {K : List (Nat × List UInt8)} (hb : nameOk b.name = true) (hp : ∀ m ∈ b.pts, nameOk m.name = true ∧ MkN m) (h : Spl s K) : Spl (bodyText b ++ s) (bodyK b ++ K) := by
  unfold bodyText bodyK
  simp only [List.cons_append, List.append_assoc, List.nil_append]
  have hm : Spl (b.pts.flatMap markText ++ 32 :: 125 :: s) (b.pts.flatMap markK ++ (2, [125]) :: K) := Spl.marks (.blank (.sign (by decide) h)) hp
  exact Spl.word (x := wBody) (by decide) (hd_c (by decide)) (.blank (.word hb (hd_c (by decide)) (.blank (.sign (by decide) hm))))
theorem Spl.full {bs : List BodyL} {i j : Nat} {b : BodyL} {m : MarkL} (hb : bs[i]? = some b) (hm : b.pts[j]? = some m) (n1 : nameOk b.name = true) (n2 : nameOk m.name = true) {s : List UInt8} {K : List (Nat × List UInt8)} (hs : ∀ c t, s = c :: t → isPart c = false) (h : Spl s K) : Spl (fullT bs (i : Nat) (j : Nat) ++ s) (fullK bs (i : Nat) (j : Nat) ++ K) := by
  rw [fullT_v hb hm, fullK_v hb hm]
  simp only [List.cons_append, List.append_assoc, List.nil_append]
  exact .word n1 (hd_c (by decide)) (.sign (by decide) (.word n2 hs h))
theorem Spl.joint {bs : List BodyL} (hB : ∀ b ∈ bs, BdF b) {j : JointL} (hn : nameOk j.name = true) (hj : JointOk bs j) {s : List UInt8} {K : List (Nat × List UInt8)} (h : Spl s K) : Spl (jointText bs j ++ s) (jointK bs j ++ K) := by
  obtain ⟨_, a, b, p, o, x, y, m1, m2, ea, eb, ep, eo, hx, hy, hm1, hm2, hk⟩ := hj
  have bx := hB x (List.mem_of_getElem? hx)
  have by_ := hB y (List.mem_of_getElem? hy)
  have n1 := (bx.pts m1 (List.mem_of_getElem? hm1)).name
  have n2 := (by_.pts m2 (List.mem_of_getElem? hm2)).name
  unfold jointText jointK jointWords
  rcases hk with ⟨k0, _⟩ | ⟨k1, t, m3, et, hm3⟩
  · rw [if_neg (by omega), if_neg (by omega), if_neg (by omega), ea, eb, ep, eo]
    simp only [joinT, List.cons_append, List.append_assoc, List.nil_append]
    exact Spl.word (x := wPin) (by decide) (hd_c (by decide)) (.blank (.word hn (hd_c (by decide)) (.blank (.full hx hm1 bx.name n1 (hd_c (by decide)) (.blank (.full hy hm2 by_.name n2 (hd_c (by decide)) (.sign (by decide) (.line h))))))))
  · have n3 := (by_.pts m3 (List.mem_of_getElem? hm3)).name
    rw [if_pos k1, if_pos k1, if_pos k1, ea, eb, ep, eo, et]
    simp only [joinT, List.cons_append, List.append_assoc, List.nil_append]
    exact Spl.word (x := wSlide) (by decide) (hd_c (by decide)) (.blank (.word hn (hd_c (by decide)) (.blank (.full hx hm1 bx.name n1 (hd_c (by decide)) (.blank (.full hy hm2 by_.name n2 (hd_c (by decide)) (.blank (.full hy hm3 by_.name n3 (hd_c (by decide)) (.sign (by decide) (.line h))))))))))
theorem Spl.driver {bs : List BodyL} (hB : ∀ b ∈ bs, BdF b) {d : DriverL} (hn : nameOk d.name = true) (hd : DriverOk bs d) {s : List UInt8} {K : List (Nat × List UInt8)} (h : Spl s K) : Spl (driverText bs d ++ s) (driverK bs d ++ K) := by
  obtain ⟨_, i, b, ei, hb⟩ := hd
  have bb := hB b (List.mem_of_getElem? hb)
  unfold driverText driverK
  rw [ei, nameT_v hb]
  simp only [List.cons_append, List.append_assoc, List.nil_append]
  exact Spl.word (x := wDriver) (by decide) (hd_c (by decide)) (.blank (.word hn (hd_c (by decide)) (.blank (.word bb.name (hd_c (by decide)) (.sign (by decide) (.line h))))))
theorem Spl.list {α : Type} {f : α → List UInt8} {g : α → List (Nat × List UInt8)} {s : List UInt8} {K : List (Nat × List UInt8)} (h : Spl s K) : ∀ {l : List α}, (∀ a ∈ l, ∀ s K, Spl s K → Spl (f a ++ s) (g a ++ K)) → Spl (l.flatMap f ++ s) (l.flatMap g ++ K)
  | [], _ => h
  | a :: l, hl => by
    rw [List.flatMap_cons, List.flatMap_cons, List.append_assoc, List.append_assoc]
    exact hl a (by simp) _ _ (Spl.list h fun x hx => hl x (by simp [hx]))
theorem long_not {l : List BodyL} (h : longL l ≠ true) : ∀ b ∈ l, ∀ m ∈ b.pts, MkN m := by
  intro b hb m hm
  have h1 : ¬ longM m = true := fun h2 => h (by
    unfold longL
    rw [List.any_eq_true]
    exact ⟨b, hb, List.any_eq_true.2 ⟨m, hm, h2⟩⟩)
  unfold longM at h1
  simp only [Bool.or_eq_true, decide_eq_true_eq, not_or] at h1
  exact ⟨by omega, by omega⟩
theorem Spl.out {s : List UInt8} {K : List (Nat × List UInt8)} (h : Spl s K) (hl : s.length ≤ 65536) : ∃ l, SplitOut s 0 l ∧ kt l = K := by
  have h1 := h 1 1
  have e : tk s 1 1 = tokens s := rfl
  rw [e] at h1
  cases ht : tokens s with
  | err x => rw [ht] at h1; cases h1
  | ok l =>
    rw [ht] at h1
    injection h1 with h1
    exact ⟨l, .ok hl ht rfl, h1⟩
/-! Reading. -/
theorem AtK.mark {s : PS} {m : MarkL} {K : List (Nat × List UInt8)} {L : LinkL} (h : AtK s (markK m ++ K) L) (hn : MkN m) (hF : MkF m) (hW : MkW m) : s.mark.1 = m ∧ AtK s.mark.2 K L := by
  obtain ⟨e1, h1⟩ := AtK.word h
  obtain ⟨vx, vq⟩ := val_rat hn.1
  obtain ⟨wx, wq⟩ := val_rat hn.2
  obtain ⟨e2, h2⟩ := h1.number vx
  obtain ⟨e3, h3⟩ := h2.number wx
  unfold PS.mark
  refine ⟨?_, h3.expect⟩
  rw [e1, e2, e3, vq, wq, rd_of_ok hW.1.1 hW.1.2 hF.x, rd_of_ok hW.2.1 hW.2.2 hF.y]
theorem AtK.marks : ∀ {l : List MarkL} {f : Nat} {s : PS} {p : List MarkL} {K : List (Nat × List UInt8)} {L : LinkL}, (∀ m ∈ l, MkN m ∧ MkF m ∧ MkW m) → l.length < f → AtK s (l.flatMap markK ++ (2, [125]) :: K) L → (PS.marks f s p).1 = p ++ l ∧ AtK (PS.marks f s p).2 K L
  | [], f, s, p, K, L, _, hf, h => by
    have hs : s.signHead = true := by
      obtain ⟨u, r, e, e1, _, _⟩ := AtK.head (k := 2) (t := [125]) (K := K) h
      unfold PS.signHead
      rw [e]
      show (u.kind == 2) = true
      rw [e1]; rfl
    rw [marks_end (by omega) h.x hs]
    exact ⟨by simp, AtK.expect h⟩
  | m :: l, f, s, p, K, L, hl, hf, h => by
    rw [List.flatMap_cons, List.append_assoc] at h
    have hs : s.signHead = false := by
      obtain ⟨u, r, e, e1, _, _⟩ := AtK.head (k := 0) (t := m.name) h
      unfold PS.signHead
      rw [e]
      show (u.kind == 2) = false
      rw [e1]; rfl
    rw [List.length_cons] at hf
    rw [marks_step (by omega) h.x hs]
    obtain ⟨h1, h2, h3⟩ := hl m (by simp)
    obtain ⟨e1, h4⟩ := AtK.mark h h1 h2 h3
    obtain ⟨e2, h5⟩ := AtK.marks (l := l) (f := f - 1) (p := p ++ [s.mark.1]) (fun x hx => hl x (by simp [hx])) (by omega) h4
    refine ⟨?_, h5⟩
    rw [e2, e1]; simp
theorem kt_len (l : List Tkn) : (kt l).length = l.length := by unfold kt; simp
theorem marksK_len : ∀ (l : List MarkL), l.length ≤ (l.flatMap markK).length
  | [] => by simp
  | m :: l => by
    have := marksK_len l
    rw [List.flatMap_cons, List.length_append, List.length_cons]
    show _ ≤ 4 + _
    omega
theorem AtK.body {s : PS} {b : BodyL} {K : List (Nat × List UInt8)} {L : LinkL} (h : AtK s ((0, b.name) :: (2, [123]) :: (b.pts.flatMap markK ++ (2, [125]) :: K)) L) (hb : ∀ m ∈ b.pts, MkN m ∧ MkF m ∧ MkW m) : s.body.1 = b ∧ AtK s.body.2 K L := by
  have hlen : b.pts.length < s.toks.length + 1 := by
    have h1 := congrArg List.length h.k
    rw [kt_len] at h1
    have := marksK_len b.pts
    simp only [List.length_cons, List.length_append] at h1
    omega
  obtain ⟨e1, h1⟩ := h.word
  obtain ⟨e2, h2⟩ := AtK.marks (p := []) hb hlen h1.expect
  refine ⟨?_, h2⟩
  show (⟨s.word.1, (PS.marks (s.toks.length + 1) (s.word.2.expect 2 [123]) []).1⟩ : BodyL) = b
  rw [e1, e2]
  rfl
theorem find_at {α : Type} {nm : α → List UInt8} {l : List α} (hd : ∀ {i j : Nat} {a b : α}, l[i]? = some a → l[j]? = some b → nm a = nm b → i = j) {i : Nat} {a : α} (ha : l[i]? = some a) : l.findIdx? (fun b => nm b == nm a) = some i := by
  obtain ⟨hi, e⟩ := List.getElem?_eq_some_iff.1 ha
  rw [List.findIdx?_eq_some_iff_getElem]
  refine ⟨hi, by rw [e]; simp, fun j hj => ?_⟩
  intro h
  have h2 : nm l[j] = nm a := by simpa using h
  have := hd (List.getElem?_eq_getElem (by omega : j < l.length)) ha h2
  omega
theorem AtK.named {s : PS} {K : List (Nat × List UInt8)} {L : LinkL} {nm : List UInt8} {i : Nat} {only : Int} (h : AtK s ((0, nm) :: K) L) (hf : findB L.bodies nm = some i) (ho : only < 0 ∨ only = (i : Int)) : (s.named only).1 = (i : Int) ∧ AtK (s.named only).2 K L := by
  obtain ⟨e1, h1⟩ := h.word
  unfold PS.named
  simp only
  rw [if_neg (by rw [h1.x]; simp), e1, h1.l, hf]
  show (i : Int) = (i : Int) ∧ AtK (if 0 ≤ only ∧ (i : Int) ≠ only then s.word.2.fail 7 else s.word.2) K L
  rw [if_neg (by rcases ho with h | h; omega; rw [h]; simp)]
  exact ⟨rfl, h1⟩
theorem AtK.full {s : PS} {K : List (Nat × List UInt8)} {L : LinkL} {i j : Nat} {b : BodyL} {m : MarkL} {only : Int} (hb : L.bodies[i]? = some b) (hm : b.pts[j]? = some m) (h : AtK s (fullK L.bodies (i : Nat) (j : Nat) ++ K) L) (hf : findB L.bodies b.name = some i) (hg : findM b.pts m.name = some j) (ho : only < 0 ∨ only = (i : Int)) : (s.full only).1 = (i : Int) ∧ (s.full only).2.1 = (j : Int) ∧ AtK (s.full only).2.2 K L := by
  rw [fullK_v hb hm] at h
  obtain ⟨e1, h1⟩ := AtK.named (K := (2, [46]) :: (0, m.name) :: K) h hf ho
  obtain ⟨e2, h2⟩ := h1.expect.word
  unfold PS.full
  simp only
  rw [if_neg (by rw [h2.x]; simp), e1, e2, h2.l, ptsAt_v (n := i) rfl hb, hg]
  exact ⟨rfl, rfl, h2⟩
theorem AtK.addJ {s : PS} {K : List (Nat × List UInt8)} {L : LinkL} (h : AtK s K L) (j : JointL) : AtK (s.addJ j) K { L with joints := L.joints ++ [j] } := ⟨h.x, h.k, by
  show ({ s.L with joints := s.L.joints ++ [j] } : LinkL) = _
  rw [h.l]⟩
theorem AtK.joint {s : PS} {K : List (Nat × List UInt8)} {L : LinkL} (hB : ∀ b ∈ L.bodies, BdF b) (hd : ∀ {i j : Nat} {a b : BodyL}, L.bodies[i]? = some a → L.bodies[j]? = some b → a.name = b.name → i = j) {j : JointL} (hj : JointOk L.bodies j) (h : AtK s (jointK L.bodies j ++ K) L) : AtK s.item K { L with joints := L.joints ++ [j] } := by
  obtain ⟨_, a, b, p, o, x, y, m1, m2, ea, eb, ep, eo, hx, hy, hm1, hm2, hk⟩ := hj
  have bx := hB x (List.mem_of_getElem? hx)
  have by_ := hB y (List.mem_of_getElem? hy)
  have fx : findB L.bodies x.name = some a := find_at (nm := BodyL.name) hd hx
  have fy : findB L.bodies y.name = some b := find_at (nm := BodyL.name) hd hy
  have g1 : findM x.pts m1.name = some p := find_at (nm := MarkL.name) bx.dist hm1
  have g2 : findM y.pts m2.name = some o := find_at (nm := MarkL.name) by_.dist hm2
  unfold jointK at h
  rcases hk with ⟨k0, t0⟩ | ⟨k1, t, m3, et, hm3⟩
  · rw [if_neg (by omega), if_neg (by omega), ea, eb, ep, eo] at h
    simp only [List.cons_append, List.append_assoc, List.nil_append] at h
    obtain ⟨e0, h0⟩ := h.word
    obtain ⟨e1, h1⟩ := h0.word
    obtain ⟨e2, e3, h2⟩ := AtK.full (only := -1) hx hm1 h1 fx g1 (.inl (by decide))
    obtain ⟨e4, e5, h3⟩ := AtK.full (only := -1) hy hm2 h2 fy g2 (.inl (by decide))
    unfold PS.item
    simp only
    rw [e0, if_neg (by decide), if_pos rfl]
    unfold PS.joint
    simp only [Bool.false_eq_true, if_false]
    have hj : (⟨j.name, 0, (a : Int), (p : Int), (b : Int), (o : Int), 0⟩ : JointL) = j := by
      obtain ⟨jn, jk, ja, jp, jb, jo, jt⟩ := j
      simp only at ea eb ep eo k0 t0
      subst ea eb ep eo k0 t0
      rfl
    rw [e1, e2, e3, e4, e5, hj]
    exact h3.expect.addJ j
  · have g3 : findM y.pts m3.name = some t := find_at (nm := MarkL.name) by_.dist hm3
    rw [if_pos k1, if_pos k1, ea, eb, ep, eo, et] at h
    simp only [List.cons_append, List.append_assoc, List.nil_append] at h
    obtain ⟨e0, h0⟩ := h.word
    obtain ⟨e1, h1⟩ := h0.word
    obtain ⟨e2, e3, h2⟩ := AtK.full (only := -1) hx hm1 h1 fx g1 (.inl (by decide))
    obtain ⟨e4, e5, h3⟩ := AtK.full (only := -1) hy hm2 h2 fy g2 (.inl (by decide))
    obtain ⟨e6, e7, h4⟩ := AtK.full (only := (b : Int)) hy hm3 h3 fy g3 (.inr rfl)
    unfold PS.item
    simp only
    rw [e0, if_neg (by decide), if_neg (by decide), if_pos rfl]
    unfold PS.joint
    simp only [if_true]
    have hj : (⟨j.name, 1, (a : Int), (p : Int), (b : Int), (o : Int), (t : Int)⟩ : JointL) = j := by
      obtain ⟨jn, jk, ja, jp, jb, jo, jt⟩ := j
      simp only at ea eb ep eo k1 et
      subst ea eb ep eo k1 et
      rfl
    rw [e4, e1, e2, e3, e5, e7, hj]
    exact h4.expect.addJ j
theorem AtK.driver {s : PS} {K : List (Nat × List UInt8)} {L : LinkL} (hd : ∀ {i j : Nat} {a b : BodyL}, L.bodies[i]? = some a → L.bodies[j]? = some b → a.name = b.name → i = j) {d : DriverL} (hj : DriverOk L.bodies d) (h : AtK s (driverK L.bodies d ++ K) L) : AtK s.item K { L with drivers := L.drivers ++ [d] } := by
  obtain ⟨_, i, b, ei, hb⟩ := hj
  have fb : findB L.bodies b.name = some i := find_at (nm := BodyL.name) hd hb
  unfold driverK at h
  rw [ei, nameT_v hb] at h
  simp only [List.cons_append, List.nil_append] at h
  obtain ⟨e0, h0⟩ := h.word
  obtain ⟨e1, h1⟩ := h0.word
  obtain ⟨e2, h2⟩ := AtK.named (only := -1) h1 fb (.inl (by decide))
  unfold PS.item
  simp only
  rw [e0, if_neg (by decide), if_neg (by decide), if_neg (by decide), if_pos rfl]
  unfold PS.driver
  simp only
  refine ⟨h2.expect.x, h2.expect.k, ?_⟩
  show ({ (PS.expect _ 2 [59]).L with drivers := _ } : LinkL) = _
  rw [h2.expect.l, e1, e2]
  obtain ⟨dn, db⟩ := d
  simp only at ei
  subst ei
  rfl
theorem AtK.bodyI {s : PS} {K : List (Nat × List UInt8)} {L : LinkL} {b : BodyL} (hb : ∀ m ∈ b.pts, MkN m ∧ MkF m ∧ MkW m) (h : AtK s (bodyK b ++ K) L) : AtK s.item K { L with bodies := L.bodies ++ [b] } := by
  unfold bodyK at h
  simp only [List.cons_append, List.append_assoc, List.nil_append] at h
  obtain ⟨e0, h0⟩ := h.word
  obtain ⟨e1, h1⟩ := AtK.body h0 hb
  unfold PS.item
  simp only
  rw [e0, if_pos rfl]
  refine ⟨h1.x, h1.k, ?_⟩
  show ({ s.word.2.body.2.L with bodies := _ } : LinkL) = _
  rw [h1.l, e1]
def FinL (s : PS) (L : LinkL) : Prop := ∀ f, s.toks.length < f → (PS.items f s).x = 0 ∧ (PS.items f s).L = L
theorem FinL.nil {s : PS} {L : LinkL} (h : AtK s [] L) : FinL s L := fun f _ => by
  have e : s.toks = [] := List.eq_nil_of_length_eq_zero (by have := congrArg List.length h.k; rw [kt_len] at this; simpa using this)
  rw [items_end (by rw [e]; simp)]
  exact ⟨h.x, h.l⟩
theorem FinL.step {s : PS} {p : Nat × List UInt8} {K K' : List (Nat × List UInt8)} {M M' L : LinkL} (h : AtK s (p :: K) M) (h' : AtK s.item K' M') (k : FinL s.item L) : FinL s L := fun f hf => by
  obtain ⟨u, r, e, _, _, _⟩ := AtK.head (k := p.1) (t := p.2) h
  have h1 := (item_len s).2 h'.x
  rw [items_step (by omega) ⟨h.x, by rw [e]; simp⟩]
  exact k _ (by omega)
theorem FinL.list {α : Type} {g : α → List (Nat × List UInt8)} (add : LinkL → α → LinkL) (P : LinkL → Prop) {K : List (Nat × List UInt8)} {L : LinkL} : ∀ (l : List α) (s : PS) (M : LinkL), (∀ a ∈ l, ∃ p q, g a = p :: q) → (∀ a ∈ l, ∀ s K M, P M → AtK s (g a ++ K) M → AtK s.item K (add M a) ∧ P (add M a)) → P M → (∀ s, AtK s K (l.foldl add M) → P (l.foldl add M) → FinL s L) → AtK s (l.flatMap g ++ K) M → FinL s L
  | [], s, M, _, _, hp, hk, h => hk s h hp
  | a :: l, s, M, hne, hs, hp, hk, h => by
    rw [List.flatMap_cons, List.append_assoc] at h
    obtain ⟨h1, h2⟩ := hs a (by simp) s _ M hp h
    obtain ⟨p, q, e⟩ := hne a (by simp)
    rw [e, List.cons_append] at h
    exact FinL.step h h1 (FinL.list add P l s.item (add M a) (fun x hx => hne x (by simp [hx])) (fun x hx => hs x (by simp [hx])) h2 hk h1)
theorem fold_b (l : List BodyL) : ∀ M : LinkL, l.foldl (fun M b => { M with bodies := M.bodies ++ [b] }) M = { M with bodies := M.bodies ++ l } := by
  induction l with
  | nil => intro M; simp
  | cons a l ih => intro M; rw [List.foldl_cons, ih]; simp
theorem fold_j (l : List JointL) : ∀ M : LinkL, l.foldl (fun M b => { M with joints := M.joints ++ [b] }) M = { M with joints := M.joints ++ l } := by
  induction l with
  | nil => intro M; simp
  | cons a l ih => intro M; rw [List.foldl_cons, ih]; simp
theorem fold_d (l : List DriverL) : ∀ M : LinkL, l.foldl (fun M b => { M with drivers := M.drivers ++ [b] }) M = { M with drivers := M.drivers ++ l } := by
  induction l with
  | nil => intro M; simp
  | cons a l ih => intro M; rw [List.foldl_cons, ih]; simp
theorem read_back {l : List Tkn} {L : LinkL} (hk : kt l = lkToks L) (hF : LkF L) (hW : LkW L) (h60 : longL L.bodies ≠ true) : (readL l).x = 0 ∧ (readL l).L = L := by
  have hN := long_not h60
  have h0 : AtK (⟨l, L0, 0⟩ : PS) (lkToks L) L0 := ⟨rfl, hk, rfl⟩
  unfold lkToks at h0
  obtain ⟨e1, h1⟩ := h0.expect.word
  unfold readL
  simp only
  have h2 : AtK ({ (((⟨l, L0, 0⟩ : PS).expect 0 wLinkage).word.2) with L := { (((⟨l, L0, 0⟩ : PS).expect 0 wLinkage).word.2).L with name := (((⟨l, L0, 0⟩ : PS).expect 0 wLinkage).word.1) } } : PS) ((2, [59]) :: (L.bodies.flatMap bodyK ++ (L.joints.flatMap (jointK L.bodies) ++ L.drivers.flatMap (driverK L.bodies)))) ⟨L.name, [], [], []⟩ := ⟨h1.x, h1.k, by
    show ({ (((⟨l, L0, 0⟩ : PS).expect 0 wLinkage).word.2).L with name := (((⟨l, L0, 0⟩ : PS).expect 0 wLinkage).word.1) } : LinkL) = _
    rw [h1.l, e1]; rfl⟩
  have h3 := h2.expect
  have hl : (({ (((⟨l, L0, 0⟩ : PS).expect 0 wLinkage).word.2) with L := { (((⟨l, L0, 0⟩ : PS).expect 0 wLinkage).word.2).L with name := (((⟨l, L0, 0⟩ : PS).expect 0 wLinkage).word.1) } } : PS).expect 2 [59]).toks.length < l.length + 1 := by
    have a1 := congrArg List.length h3.k
    have a2 := congrArg List.length hk
    unfold lkToks at a2
    rw [kt_len] at a1 a2
    rw [a1, a2]
    simp only [List.length_cons]
    omega
  generalize ({ (((⟨l, L0, 0⟩ : PS).expect 0 wLinkage).word.2) with L := { (((⟨l, L0, 0⟩ : PS).expect 0 wLinkage).word.2).L with name := (((⟨l, L0, 0⟩ : PS).expect 0 wLinkage).word.1) } } : PS).expect 2 [59] = s at h3 hl ⊢
  have key : FinL s L := by
    refine FinL.list (g := bodyK) (fun M b => { M with bodies := M.bodies ++ [b] }) (fun _ => True) L.bodies s _ (fun b _ => ⟨_, _, rfl⟩) (fun b hb s K M _ h => ⟨AtK.bodyI (fun m hm => ⟨hN b hb m hm, (hF.body b hb).pts m hm, hW b hb m hm⟩) h, trivial⟩) trivial (fun s h _ => ?_) h3
    rw [fold_b, List.nil_append] at h
    refine FinL.list (g := jointK L.bodies) (fun M b => { M with joints := M.joints ++ [b] }) (fun M => M.bodies = L.bodies) L.joints s ⟨L.name, L.bodies, [], []⟩ (fun b _ => ⟨_, _, rfl⟩) (fun j hj s K M hM h => ⟨?_, hM⟩) rfl (fun s h hM => ?_) h
    · rw [← hM] at h
      exact AtK.joint (by rw [hM]; exact hF.body) (by rw [hM]; exact hF.dist) (by rw [hM]; exact hF.ok.joint j hj) h
    · rw [fold_j, List.nil_append] at h
      rw [← List.append_nil (L.drivers.flatMap _)] at h
      refine FinL.list (g := driverK L.bodies) (fun M b => { M with drivers := M.drivers ++ [b] }) (fun M => M.bodies = L.bodies) L.drivers s ⟨L.name, L.bodies, L.joints, []⟩ (fun b _ => ⟨_, _, rfl⟩) (fun d hd s K M hM h => ⟨?_, hM⟩) rfl (fun s h _ => ?_) h
      · rw [← hM] at h
        exact AtK.driver (by rw [hM]; exact hF.dist) (by rw [hM]; exact hF.ok.driver d hd) h
      · rw [fold_d, List.nil_append] at h
        exact FinL.nil h
  exact key _ hl
end Go.Proofs.YtoiijifnfdgfpaaGreatDoor

/- Reading, plain: where a token stands makes no difference. -/
namespace Go.Proofs.YtoiijifnfdgfpaaGreatDoor
open Go Go.RowKit Bn
def plT (t : Tkn) : Tkn := ⟨t.kind, t.text, 0, 0⟩
def PS.st (s : PS) : PS := { s with toks := s.toks.map plT }
theorem st_next (s : PS) (k : Nat) : s.st.next k = ((s.next k).1, (s.next k).2.st) := by
  obtain ⟨T, L, x⟩ := s
  unfold PS.next PS.st
  simp only
  by_cases hx : x ≠ 0
  · rw [if_pos hx, if_pos hx]
  · rw [if_neg hx, if_neg hx]
    cases T with
    | nil => rfl
    | cons t r =>
      simp only [List.map_cons]
      by_cases hk : t.kind = k
      · rw [if_pos hk, if_pos (show (plT t).kind = k from hk)]
        rfl
      · rw [if_neg hk, if_neg (show ¬ (plT t).kind = k from hk)]
        rfl
theorem st_drop (s : PS) : s.st.drop1 = s.drop1.st := by
  unfold PS.drop1 PS.st
  simp only [List.map_drop]
theorem st_fail (s : PS) (e : Int) : s.st.fail e = (s.fail e).st := by
  unfold PS.fail
  by_cases h : s.x = 0
  · rw [if_pos h, if_pos (show s.st.x = 0 from h)]; rfl
  · rw [if_neg h, if_neg (show ¬ s.st.x = 0 from h)]
theorem st_word (s : PS) : s.st.word = (s.word.1, s.word.2.st) := by
  unfold PS.word
  rw [st_next]
  generalize s.next 0 = p
  obtain ⟨o, s'⟩ := p
  cases o with
  | none => rfl
  | some t => exact congrArg (Prod.mk t) (st_drop s')
theorem st_expect (s : PS) (k : Nat) (t : List UInt8) : s.st.expect k t = (s.expect k t).st := by
  unfold PS.expect
  rw [st_next]
  generalize s.next k = p
  obtain ⟨o, s'⟩ := p
  cases o with
  | none => rfl
  | some u =>
    show (if u = t then s'.st.drop1 else s'.st.fail 2) = (if u = t then s'.drop1 else s'.fail 2).st
    split
    · exact st_drop s'
    · exact st_fail s' 2
theorem st_number (s : PS) : s.st.number = (s.number.1, s.number.2.st) := by
  unfold PS.number
  rw [st_next]
  generalize s.next 1 = p
  obtain ⟨o, s'⟩ := p
  cases o with
  | none => rfl
  | some u =>
    show (if valX u ≠ 0 then (0, s'.st.fail (valX u)) else (valQ u, s'.st.drop1) : Rat × PS) = ((if valX u ≠ 0 then (0, s'.fail (valX u)) else (valQ u, s'.drop1) : Rat × PS).1, (if valX u ≠ 0 then (0, s'.fail (valX u)) else (valQ u, s'.drop1) : Rat × PS).2.st)
    split
    · rw [st_fail]
    · rw [st_drop]
theorem st_mark (s : PS) : s.st.mark = (s.mark.1, s.mark.2.st) := by
  unfold PS.mark
  simp only [st_word, st_number, st_expect]
theorem st_sign (s : PS) : s.st.signHead = s.signHead := by
  obtain ⟨T, L, x⟩ := s
  unfold PS.signHead PS.st
  cases T <;> rfl
theorem st_marks : ∀ (f : Nat) (s : PS) (l : List MarkL), PS.marks f s.st l = ((PS.marks f s l).1, (PS.marks f s l).2.st)
  | 0, s, l => rfl
  | f + 1, s, l => by
    by_cases hx : s.x = 0
    · cases hs : s.signHead
      · rw [marks_step (by omega) hx hs, marks_step (s := s.st) (by omega) hx (by rw [st_sign, hs]), st_mark]
        exact st_marks f _ _
      · rw [marks_end (by omega) hx hs, marks_end (s := s.st) (by omega) hx (by rw [st_sign, hs]), st_expect]
    · rw [marks_x hx, marks_x (s := s.st) hx]
theorem st_len (s : PS) : s.st.toks.length = s.toks.length := by
  show (s.toks.map plT).length = _
  simp
theorem st_body (s : PS) : s.st.body = (s.body.1, s.body.2.st) := by
  unfold PS.body
  simp only [st_len, st_word, st_expect, st_marks]
theorem st_named (s : PS) (only : Int) : s.st.named only = ((s.named only).1, (s.named only).2.st) := by
  unfold PS.named
  simp only [st_word]
  generalize s.word.1 = nm
  generalize s.word.2 = s'
  by_cases h : s'.x ≠ 0
  · rw [if_pos h, if_pos (show s'.st.x ≠ 0 from h)]
  · rw [if_neg h, if_neg (show ¬ s'.st.x ≠ 0 from h), show s'.st.L = s'.L from rfl]
    cases findB s'.L.bodies nm with
    | none => exact congrArg (Prod.mk _) (st_fail s' 5)
    | some i =>
      simp only
      split
      · exact congrArg (Prod.mk _) (st_fail s' 7)
      · rfl
theorem st_full (s : PS) (only : Int) : s.st.full only = ((s.full only).1, (s.full only).2.1, (s.full only).2.2.st) := by
  unfold PS.full
  simp only [st_named, st_expect, st_word]
  generalize (s.named only).1 = b
  generalize (((s.named only).2.expect 2 [46]).word).1 = nm
  generalize (((s.named only).2.expect 2 [46]).word).2 = s'
  by_cases h : s'.x ≠ 0
  · rw [if_pos h, if_pos (show s'.st.x ≠ 0 from h)]
  · rw [if_neg h, if_neg (show ¬ s'.st.x ≠ 0 from h), show s'.st.L = s'.L from rfl]
    cases findM (ptsAt s'.L b) nm with
    | none => exact congrArg (fun z => ((0 : Int), (0 : Int), z)) (st_fail s' 5)
    | some i => rfl
theorem st_addJ (s : PS) (b : JointL) : s.st.addJ b = (s.addJ b).st := rfl
theorem st_addD (s : PS) (b : DriverL) : s.st.addD b = (s.addD b).st := rfl
theorem st_joint (s : PS) (b : Bool) : s.st.joint b = (s.joint b).st := by
  unfold PS.joint
  cases b
  · simp only [st_word, st_full, st_expect, Bool.false_eq_true, if_false, st_addJ]
  · simp only [st_word, st_full, st_expect, if_true, st_addJ]
theorem st_driver (s : PS) : s.st.driver = s.driver.st := by
  unfold PS.driver
  simp only [st_word, st_named, st_expect, st_addD]
theorem st_item (s : PS) : s.st.item = s.item.st := by
  unfold PS.item
  simp only [st_word]
  generalize s.word.1 = nm
  generalize s.word.2 = s'
  split
  · rw [st_body]; rfl
  · split
    · exact st_joint _ _
    · split
      · exact st_joint _ _
      · split
        · exact st_driver _
        · exact st_fail _ _
theorem st_items : ∀ (f : Nat) (s : PS), PS.items f s.st = (PS.items f s).st
  | 0, s => rfl
  | f + 1, s => by
    have e : s.st.toks ≠ [] ↔ s.toks ≠ [] := by
      show s.toks.map plT ≠ [] ↔ _
      simp
    by_cases h : s.x = 0 ∧ s.toks ≠ []
    · rw [items_step (by omega) h, items_step (s := s.st) (by omega) ⟨h.1, e.2 h.2⟩, st_item]
      exact st_items f _
    · rw [items_end h, items_end (s := s.st) (fun h2 => h ⟨h2.1, e.1 h2.2⟩)]
theorem st_read (l : List Tkn) : readL (l.map plT) = (readL l).st := by
  have h0 : (⟨l.map plT, L0, 0⟩ : PS) = (⟨l, L0, 0⟩ : PS).st := rfl
  unfold readL
  simp only
  rw [h0, st_expect, st_word, List.length_map]
  have h1 : ∀ s : PS, ∀ L : LinkL, ({ s.st with L := L } : PS) = ({ s with L := L } : PS).st := fun _ _ => rfl
  simp only
  rw [h1, st_expect, st_items]
  rfl
theorem kt_st {l m : List Tkn} (h : kt l = kt m) : l.map plT = m.map plT := by
  have e : ∀ l : List Tkn, l.map plT = (kt l).map fun p => ⟨p.1, p.2, 0, 0⟩ := fun l => by
    unfold kt
    rw [List.map_map]; rfl
  rw [e, e, h]
theorem read_kt {l m : List Tkn} (h : kt l = kt m) : (readL l).x = (readL m).x ∧ (readL l).L = (readL m).L := by
  have h1 := (st_read l).symm.trans ((congrArg readL (kt_st h)).trans (st_read m))
  exact ⟨show (readL l).st.x = (readL m).st.x by rw [h1], show (readL l).st.L = (readL m).st.L by rw [h1]⟩
theorem out_kt {s s' : List UInt8} {l m : List Tkn} {x : Int} {L : LinkL} (hs : SplitOut s 0 l) (hm : SplitOut s' 0 m) (h : kt l = kt m) (k : ReadOut s x L) : ReadOut s' x L := by
  obtain ⟨h1, h2⟩ := read_kt h
  cases k with
  | split l' hs' hx _ => exact absurd (hs'.uniq hs).1 hx
  | read l' hs' hr hx hL =>
    obtain ⟨_, rfl⟩ := hs.uniq hs'
    exact .read m hm (by rw [← h1]; exact hr) hx hL
  | check l' hs' hr hc hx hL =>
    obtain ⟨_, rfl⟩ := hs.uniq hs'
    exact .check m hm (by rw [← h1]; exact hr) (by rw [← h2]; exact hc) hx hL
  | ok l' hs' hr hc hx hL =>
    obtain ⟨_, rfl⟩ := hs.uniq hs'
    exact .ok m hm (by rw [← h1]; exact hr) (by rw [← h2]; exact hc) hx (by rw [← h2]; exact hL)
end Go.Proofs.YtoiijifnfdgfpaaGreatDoor

/- Walks: the text of a linkage (program). -/
namespace Go.Proofs.YtoiijifnfdgfpaaGreatDoor
open Go Go.RowKit Bn
attribute [local go_sem ↓] Go.wp_at_zero Go.wp_at_succ
theorem BodyOk.nm {b : BodyL} (h : BodyOk b) : b.name.length ≤ 1000 := by have := h.1; omega
theorem BodyOk.np {b : BodyL} (h : BodyOk b) : b.pts.length ≤ 8 := h.2.1
theorem Blk.strs {w : World} {g t : Nat} {l : List (List UInt8)} (h : Blk w g t (strCs l).toArray) (k : Nat) (x : List UInt8) (hx : l[k]? = some x) : w.cell? ⟨g, k, none⟩ = some (strV x) := by
  rw [h.cell k, List.getElem?_toArray]
  unfold strCs
  rw [List.getElem?_map, hx]
  rfl
theorem Blk.owns {w : World} {base g t n : Nat} {l : List (List UInt8)} (h : Blk w g t (strCs l).toArray) (hb : base ≤ g) (hl : l.length = n) (hn : n ≤ 1000) : w.ownsRow base t 1 (.slice (some ⟨g, 0, none⟩) n n) n (strCs l) := by
  subst hl
  exact ⟨by simp [strCs], .inr ⟨g, _, _, rfl, hb, h, Nat.le_refl _, by unfold maxLen; omega, by simp [strCs], by rw [List.take_of_length_le (by simp [strCs])]⟩⟩
end Go.Proofs.YtoiijifnfdgfpaaGreatDoor

/- Walks: a linkage too large for a statement. -/
namespace Go.Proofs.YtoiijifnfdgfpaaGreatDoor
open Go Go.RowKit Bn
attribute [local go_sem ↓] Go.wp_at_zero Go.wp_at_succ
theorem RatAt.words {k : Nat} {w : World} {g o : Nat} {r : RD} (h : RatAt w g o r k) : RdW r := by
  obtain ⟨b, A, n, c, D, m, e, _, _, _, hQ⟩ := h
  exact ⟨hQ.2.1.1, hQ.2.2.1.1⟩
theorem SlS.markW {k : Nat} {w : World} {A : Option Addr} {n c : Nat} {l : List MarkL} (h : SlS (MkAt k) 7 w A n c l) : ∀ m ∈ l, MkW m := by
  intro m hm
  obtain ⟨i, hi, e⟩ := List.getElem_of_mem hm
  obtain ⟨g, o, a, _, _, _, ha, hp⟩ := h.at_ (i := i) (by rw [← h.1]; exact hi)
  rw [List.getElem?_eq_getElem hi] at ha
  injection ha with ha
  rw [← ha, e] at hp
  exact ⟨hp.2.1.words, hp.2.2.1.words⟩
theorem LkS.words {k : Nat} {w : World} {A B C : Option Addr} {n c p d q e : Nat} {L : LinkL} (h : LkS k w A n c B p d C q e L) : LkW L := by
  intro b hb
  obtain ⟨i, hi, e1⟩ := List.getElem_of_mem hb
  obtain ⟨g, o, a, _, _, _, ha, hp⟩ := h.bodies.at_ (i := i) (by rw [← h.bodies.1]; exact hi)
  rw [List.getElem?_eq_getElem hi] at ha
  injection ha with ha
  rw [← ha, e1] at hp
  obtain ⟨A', n', c', _, _, hM, _⟩ := hp
  exact hM.markW
theorem RatAt.small {K k : Nat} {w : World} {g o : Nat} {r : RD} (h : RatAt w g o r K) (h1 : r.num.length ≤ k) (h2 : r.den.length ≤ k) : RatAt w g o r k := by
  obtain ⟨b, A, n, c, D, m, e, c1, c2, c3, hQ⟩ := h
  refine ⟨b, A, n, c, D, m, e, c1, c2, c3, hQ.1, hQ.2.1, hQ.2.2.1, ?_, ?_⟩
  · rw [hQ.2.1.2.1]; exact h1
  · rw [hQ.2.2.1.2.1]; exact h2
theorem SlS.mono_ {α : Type} {P P' : World → Nat → Nat → α → Prop} {s : Nat} {w : World} {A : Option Addr} {n c : Nat} {l : List α} (h : SlS P s w A n c l) (hP : ∀ g o a, a ∈ l → P w g o a → P' w g o a) : SlS P' s w A n c l := by
  refine ⟨h.1, h.2.1, fun hn => ?_⟩
  obtain ⟨g, o, e, hg, h3⟩ := h.2.2 hn
  exact ⟨g, o, e, hg, fun i a ha => hP _ _ _ (List.mem_of_getElem? ha) (h3 i a ha)⟩
end Go.Proofs.YtoiijifnfdgfpaaGreatDoor

/- Walks: the fixed linkage of the Print laws. -/
namespace Go.Proofs.YtoiijifnfdgfpaaGreatDoor
open Go Go.RowKit Bn
attribute [local go_sem ↓] Go.wp_at_zero Go.wp_at_succ
def mkO : MarkL := ⟨[79], rd 0, rd 0⟩
def mkC : MarkL := ⟨[67], rd 4, rd 0⟩
def mkA : MarkL := ⟨[65], rd 1, rd (1 / 2)⟩
def bdF : BodyL := ⟨[102, 114, 97, 109, 101], [mkO, mkC]⟩
def bdC : BodyL := ⟨[99, 114, 97, 110, 107], [mkO, mkA]⟩
def exL : LinkL := ⟨[109], [bdF, bdC], [⟨[106], 0, 1, 0, 0, 0, 0⟩], [⟨[100], 1⟩]⟩
end Go.Proofs.YtoiijifnfdgfpaaGreatDoor

/- Walks: the Print laws: awake, PrintLinkages, PrintLines. -/
namespace Go.Proofs.YtoiijifnfdgfpaaGreatDoor
open Go Go.RowKit Bn
attribute [local go_sem ↓] Go.wp_at_zero Go.wp_at_succ
theorem ex_err : lkErr exL = 0 := by decide +kernel
end Go.Proofs.YtoiijifnfdgfpaaGreatDoor

/- A region that draws its order, makes variables of any type and stores to them: what lies below B stays. -/
namespace Go.Proofs.YtoiijifnfdgfpaaGreatDoor
open Go Go.RowKit Bn
structure FltB where
  a : Nat
  s : Nat
  T : TypeId
  Z : Array Value
  PS : Array Value → World → Prop
structure OwnB where
  g : Nat
  s : Nat
  o : Nat
  T : TypeId
  Z : Array Value
  PS : Array Value → World → Prop
def LinB (ops : Array Oper) (fr : (Nat → Value) → Act) (R : Nat → Value → World → Prop) (es : List FltB) (ow : List OwnB) (B : Nat) (W : World) (L : Array Bool) (a : Act) (w : World) : Prop :=
  ∃ x, a = fr x ∧ (Below B W w ∧ Below B W w) ∧ (∀ i, L.getD i false = true → R i (x i) w) ∧
  (∀ i o, ops[i]? = some o → L.getD i false = true → ∀ e ∈ o.after, Region.binds .any e = true → L.getD e.on false = true) ∧
  (∀ f ∈ es, L.getD f.a false = true → ∃ g c, x f.a = .pointer (some ⟨g, 0, none⟩) ∧ W.heap.size ≤ g ∧ Blk w g f.T c ∧ (L.getD f.s false = false → c = f.Z) ∧ (L.getD f.s false = true → f.PS c w)) ∧
  (∀ f ∈ es, ∀ f' ∈ es, f.a ≠ f'.a → L.getD f.a false = true → L.getD f'.a false = true → x f.a ≠ x f'.a) ∧
  (∀ f ∈ ow, ∃ c, Blk w f.g f.T c ∧ (L.getD f.s false = false → c = f.Z) ∧ (L.getD f.s false = true → f.PS c w))

section
variable (P : Program) (ops : Array Oper) (Q : Exit → Act → World → Prop) (fr : (Nat → Value) → Act) (R : Nat → Value → World → Prop) (es : List FltB) (ow : List OwnB) (B : Nat) (W : World)
def ValStepB (i : Nat) (o : Oper) : Prop := (∀ f ∈ es, i ≠ f.a ∧ i ≠ f.s) ∧ (∀ f ∈ ow, i ≠ f.s) ∧
  ∀ x w, Below B W w → (∀ f ∈ ow, (∀ o', ops[f.s]? = some o' → ∃ e ∈ o'.after, Region.binds .any e = true ∧ e.on = i) → Blk w f.g f.T f.Z) → (∀ e ∈ o.after, Region.binds .any e = true → R e.on (x e.on) w) → ∀ K' : Act → World → Prop, Shut (∀ v w', R i v w' → Below w.heap.size w w' → K' ((fr x).put o.dst v) w') →
    if Region.wanted o (yielded ops (fr x).tmps) = true then Oper.wp P o (fr x) w K' Q else K' ((fr x).put o.dst undef) w
def AllocStepB (i : Nat) (o : Oper) : Prop := ∃ f ∈ es, i = f.a ∧ (∀ f' ∈ es, i ≠ f'.s) ∧ (∀ f' ∈ ow, i ≠ f'.s) ∧ (∀ f' ∈ es, f'.a = i → f' = f) ∧ (∀ v w, R i v w) ∧
  ∀ x w, ∀ K' : Act → World → Prop, Shut (K' ((fr x).put o.dst (.pointer (some ⟨w.heap.size, 0, none⟩))) (w.alloc (.cells f.Z f.T))) →
    if Region.wanted o (yielded ops (fr x).tmps) = true then Oper.wp P o (fr x) w K' Q else K' ((fr x).put o.dst undef) w
def StoreStepB (i : Nat) (o : Oper) : Prop := ∃ f ∈ es, i = f.s ∧ (∀ f' ∈ es, i ≠ f'.a) ∧ (∀ f' ∈ ow, i ≠ f'.s) ∧ (∀ f' ∈ es, f'.s = i → f' = f) ∧ (∀ f' ∈ es, f'.a = f.a → f' = f) ∧ True ∧ (∀ v w, R i v w) ∧ (∃ e ∈ o.after, Region.binds .any e = true ∧ e.on = f.a) ∧
  ∀ x w g, x f.a = .pointer (some ⟨g, 0, none⟩) → Blk w g f.T f.Z → (∀ e ∈ o.after, Region.binds .any e = true → R e.on (x e.on) w) →
    ∃ us, (∀ w', Below B w w' → f.PS (setL f.Z 0 us) w') ∧ ∀ K' : Act → World → Prop, Shut (∀ v, K' ((fr x).put o.dst v) (setFrom w g 0 us)) →
      if Region.wanted o (yielded ops (fr x).tmps) = true then Oper.wp P o (fr x) w K' Q else K' ((fr x).put o.dst undef) w
def OwnStepB (i : Nat) (o : Oper) : Prop := ∃ f ∈ ow, i = f.s ∧ (∀ f' ∈ es, i ≠ f'.a ∧ i ≠ f'.s) ∧ (∀ f' ∈ ow, f'.s = i → f' = f) ∧ True ∧ (∀ v w, R i v w) ∧
  ∀ x w, Blk w f.g f.T f.Z → (∀ e ∈ o.after, Region.binds .any e = true → R e.on (x e.on) w) →
    ∃ us, (∀ w', Below B w w' → f.PS (setL f.Z f.o us) w') ∧ ∀ K' : Act → World → Prop, Shut (∀ v, K' ((fr x).put o.dst v) (setFrom w f.g f.o us)) →
      if Region.wanted o (yielded ops (fr x).tmps) = true then Oper.wp P o (fr x) w K' Q else K' ((fr x).put o.dst undef) w
end
section
variable {P : Program} {ops : Array Oper} {Q : Exit → Act → World → Prop} {fr : (Nat → Value) → Act} {R : Nat → Value → World → Prop} {es : List FltB} {ow : List OwnB} {B : Nat}
theorem wp_region_own {id : Nat} {w : World} {x0 : Nat → Value} (hm : P.follows .mixedOrders = true)
    (hput : ∀ i o, ops[i]? = some o → ∀ x v, (fr x).put o.dst v = fr (upd x i v))
    (hac : ∀ i o, ops[i]? = some o → ∀ e ∈ o.after, Region.binds .any e = true → e.on < i)
    (hR : ∀ i v w w', R i v w → Below B w w' → R i v w')
    (hPS : ∀ f ∈ es, ∀ c w w', f.PS c w → Below B w w' → f.PS c w')
    (hPO : ∀ f ∈ ow, ∀ c w w', f.PS c w → Below B w w' → f.PS c w')
    (hfs : ∀ f ∈ es, f.a < ops.size ∧ f.s < ops.size)
    (hB : B ≤ w.heap.size)
    (hO : ∀ f ∈ ow, Blk w f.g f.T f.Z ∧ B ≤ f.g)
    (hOd : ∀ f ∈ ow, ∀ f' ∈ ow, f.g = f'.g → f = f')
    (hstep : ∀ i o, ops[i]? = some o → ValStepB P ops Q fr R es ow B w i o ∨ AllocStepB P ops Q fr R es ow i o ∨ StoreStepB P ops Q fr R es ow B i o ∨ OwnStepB P ops Q fr R es ow B i o)
    (hend : ∀ x w', Below B w w' → Below B w w' → w.heap.size ≤ w'.heap.size → (∀ f ∈ ow, ∃ c, Blk w' f.g f.T c ∧ (ops.size ≤ f.s → c = f.Z) ∧ (f.s < ops.size → f.PS c w')) → (∀ i, i < ops.size → R i (x i) w') → (∀ f ∈ es, ∃ g c, x f.a = .pointer (some ⟨g, 0, none⟩) ∧ w.heap.size ≤ g ∧ Blk w' g f.T c ∧ f.PS c w') → (∀ f ∈ es, ∀ f' ∈ es, f.a ≠ f'.a → x f.a ≠ x f'.a) → Q .normal (fr x) w') :
    (Code.region id ops true).wp P Q (fr x0) w := by
  refine wp_region_any hm (wpAny_inv (fun L a w' => w.heap.size ≤ w'.heap.size ∧ LinB ops fr R es ow B w L a w') ?_ ?_ _ _ _ _ (by simp) ?_ ?_)
  · rintro L a w1 i hs hi ⟨hsz, x, rfl, ⟨hkW, hb⟩, hr, hcl, hf, hd, how⟩
    obtain ⟨hun, o, ho, hall⟩ := mem_ready.1 hi
    have hlt : i < L.size := by
      rcases Nat.lt_or_ge i L.size with h | h
      · exact h
      · rw [Array.getD_eq_getD_getElem?, Array.getElem?_eq_none h] at hun; cases hun
    have hunf : L.getD i false = false := by
      rw [Array.getD_eq_getD_getElem?, Array.getElem?_eq_getElem hlt] at hun ⊢; exact hun
    have hdep : ∀ e ∈ o.after, Region.binds .any e = true → R e.on (x e.on) w1 := fun e he hbd => hr _ (hall e he hbd)
    have hcl' : ∀ i' o', ops[i']? = some o' → (L.setIfInBounds i true).getD i' false = true → ∀ e ∈ o'.after, Region.binds .any e = true → (L.setIfInBounds i true).getD e.on false = true := by
      intro i' o' ho' hl e he hbd
      rw [getD_set hlt] at hl ⊢
      by_cases h : i' = i
      · subst h; rw [ho] at ho'; injection ho' with ho'; subst ho'
        rw [hall e he hbd]; simp
      · have : L.getD i' false = true := by simpa [h] using hl
        rw [hcl i' o' ho' this e he hbd]; simp
    refine wpOp_step ho fun K' hK => ?_
    have hsno : ∀ f ∈ ow, (∀ o', ops[f.s]? = some o' → ∃ e ∈ o'.after, Region.binds .any e = true ∧ e.on = i) → Blk w1 f.g f.T f.Z := by
      intro f hfo hdd
      obtain ⟨c, c1, c2, _⟩ := how f hfo
      have : L.getD f.s false = false := by
        cases h : L.getD f.s false
        · rfl
        · exfalso
          have hlt2 : f.s < ops.size := by
            rcases Nat.lt_or_ge f.s L.size with h2 | h2
            · omega
            · rw [Array.getD_eq_getD_getElem?, Array.getElem?_eq_none h2] at h; cases h
          obtain ⟨e, he, hbd, hea⟩ := hdd _ (Array.getElem?_eq_getElem hlt2)
          have := hcl f.s _ (Array.getElem?_eq_getElem hlt2) h e he hbd
          rw [hea, hunf] at this; cases this
      rw [← c2 this]; exact c1
    have howk : ∀ w', Below B w1 w' → (∀ g t c, Blk w1 g t c → (∃ f ∈ ow, f.g = g) → Blk w' g t c) → (∀ f ∈ ow, i ≠ f.s) → ∀ f ∈ ow, ∃ c, Blk w' f.g f.T c ∧ ((L.setIfInBounds i true).getD f.s false = false → c = f.Z) ∧ ((L.setIfInBounds i true).getD f.s false = true → f.PS c w') := by
      intro w' hkp hbl hne f hfo
      obtain ⟨c, c1, c2, c3⟩ := how f hfo
      have n2 := hne f hfo
      refine ⟨c, hbl _ _ _ c1 ⟨f, hfo, rfl⟩, fun h => c2 ?_, fun h => hPO f hfo _ _ _ (c3 ?_) hkp⟩
      · rw [getD_set hlt] at h; simpa [Ne.symm n2] using h
      · rw [getD_set hlt] at h; simpa [Ne.symm n2] using h
    rcases hstep i o ho with ⟨hno, hnow, hv⟩ | ⟨f, hf1, rfl, hnos, hnow, huniq, hRi, hv⟩ | ⟨f, hf1, rfl, hnoa, hnow, huniq, huniqa, hT, hRi, ⟨e, he, hbd, hea⟩, hv⟩ | ⟨f, hf1, rfl, hnoe, huniq, hT, hRi, hv⟩
    · refine hv x w1 hkW hsno hdep K' (fun v w' hRv hbw => hK _ _ ?_)
      have hkp : Below B w1 w' := (hbw.mono (Nat.le_trans hB hsz))
      refine ⟨Nat.le_trans hsz hbw.size, upd x i v, hput i o ho x v, ⟨hkW.trans hkp, hb.trans (hbw.mono (Nat.le_trans hB hsz))⟩, fun j hj => ?_, hcl', fun f hfe hfa => ?_, fun f hfe f' hfe' hne h1 h2 => ?_, howk w' hkp (fun g t c h _ => h.below hbw h.lt) hnow⟩
      · by_cases h : j = i
        · subst h; rw [upd_same]; exact hRv
        · rw [upd_ne _ _ h]; rw [getD_set hlt] at hj; exact hR _ _ _ _ (hr j (by simpa [h] using hj)) hkp
      · rw [getD_set hlt] at hfa
        have n1 := (hno f hfe).1
        have n2 := (hno f hfe).2
        rw [upd_ne _ _ (Ne.symm n1)]
        obtain ⟨g, c, e1, e2, e3, e4, e5⟩ := hf f hfe (by simpa [Ne.symm n1] using hfa)
        refine ⟨g, c, e1, e2, e3.below hbw e3.lt, fun h => e4 ?_, fun h => hPS f hfe _ _ _ (e5 ?_) hkp⟩
        · rw [getD_set hlt] at h; simpa [Ne.symm n2] using h
        · rw [getD_set hlt] at h; simpa [Ne.symm n2] using h
      · rw [getD_set hlt] at h1 h2
        have n1 := (hno f hfe).1
        have n2 := (hno f' hfe').1
        rw [upd_ne _ _ (Ne.symm n1), upd_ne _ _ (Ne.symm n2)]
        exact hd f hfe f' hfe' hne (by simpa [Ne.symm n1] using h1) (by simpa [Ne.symm n2] using h2)
    · refine hv x w1 K' (hK _ _ ?_)
      have hkp : Below B w1 (w1.alloc (.cells f.Z f.T)) := ((Below.refl B w1).alloc (Nat.le_trans hB hsz) _)
      have hsl : L.getD f.s false = false := by
        cases h : L.getD f.s false
        · rfl
        · exfalso
          obtain ⟨o', ho'⟩ : ∃ o', ops[f.s]? = some o' := ⟨_, Array.getElem?_eq_getElem (hfs f hf1).2⟩
          rcases hstep f.s o' ho' with ⟨hno, _⟩ | ⟨f2, hf2, e2, hnos2, _⟩ | ⟨f2, hf2, e2, _, _, hu2, _, _, _, ⟨e, he, hbd, hea⟩, _⟩ | ⟨f2, hf2, e2, hno2, _⟩
          · exact (hno f hf1).2 rfl
          · exact hnos2 f hf1 rfl
          · have := hu2 f hf1 rfl
            subst this
            have := hcl f.s o' ho' h e he hbd
            rw [hea] at this
            rw [this] at hunf; cases hunf
          · exact (hno2 f hf1).2 rfl
      refine ⟨by simp; omega, upd x f.a _, hput f.a o ho x _, ⟨hkW.alloc (Nat.le_trans hB hsz) _, hb.alloc (Nat.le_trans hB hsz) _⟩, fun j hj => ?_, hcl', fun f' hfe hfa => ?_, fun f1 hfe f2 hfe' hne h1 h2 => ?_, howk _ hkp (fun g t c h _ => h.alloc _) hnow⟩
      · by_cases h : j = f.a
        · subst h; exact hRi _ _
        · rw [upd_ne _ _ h]; rw [getD_set hlt] at hj; exact hR _ _ _ _ (hr j (by simpa [h] using hj)) hkp
      · by_cases h : f'.a = f.a
        · have := huniq f' hfe h
          subst this
          rw [upd_same]
          refine ⟨_, _, rfl, hsz, Blk.new _ _ _, fun _ => rfl, fun h' => ?_⟩
          rw [getD_set hlt, hsl] at h'
          have : f'.s = f'.a := by simpa using h'
          exact absurd this.symm (hnos f' hfe)
        · rw [upd_ne _ _ h]
          rw [getD_set hlt] at hfa
          have n2 := hnos f' hfe
          obtain ⟨g, c, e1, e2, e3, e4, e5⟩ := hf f' hfe (by simpa [h] using hfa)
          refine ⟨g, c, e1, e2, e3.alloc _, fun h => e4 ?_, fun h => hPS f' hfe _ _ _ (e5 ?_) hkp⟩
          · rw [getD_set hlt] at h; simpa [Ne.symm n2] using h
          · rw [getD_set hlt] at h; simpa [Ne.symm n2] using h
      · rw [getD_set hlt] at h1 h2
        have fresh : ∀ f3 ∈ es, f3.a ≠ f.a → L.getD f3.a false = true → x f3.a ≠ .pointer (some ⟨w1.heap.size, 0, none⟩) := by
          intro f3 h3 hne3 hl3 heq
          obtain ⟨g, c, e1, e2, e3, _⟩ := hf f3 h3 hl3
          rw [e1] at heq
          have hg := e3.lt
          injection heq with heq; injection heq with heq; injection heq with heq
          omega
        by_cases c1 : f1.a = f.a
        · have c2 : f2.a ≠ f.a := fun h => hne (c1.trans h.symm)
          rw [c1, upd_same, upd_ne _ _ c2]
          exact (fresh f2 hfe' c2 (by simpa [c2] using h2)).symm
        · rw [upd_ne _ _ c1]
          by_cases c2 : f2.a = f.a
          · rw [c2, upd_same]; exact fresh f1 hfe c1 (by simpa [c1] using h1)
          · rw [upd_ne _ _ c2]; exact hd f1 hfe f2 hfe' hne (by simpa [c1] using h1) (by simpa [c2] using h2)
    · have hal : L.getD f.a false = true := by rw [← hea]; exact hall e he hbd
      obtain ⟨g, c, e1, e2, e3, e4, e5⟩ := hf f hf1 hal
      have hc := e4 hunf
      subst hc
      obtain ⟨us, hus, hv⟩ := hv x w1 g e1 e3 hdep
      refine hv K' (fun v => hK _ _ ?_)
      have hkp : Below B w1 (setFrom w1 g 0 us) := setFrom_below (Nat.le_trans hB e2) us 0 w1 (Below.refl _ _)
      have hnb : ∀ f3 ∈ es, f3.a ≠ f.s := fun f3 h3 h => hnoa f3 h3 h.symm
      refine ⟨Nat.le_trans hsz (Nat.le_of_eq (setFrom_size us 0 w1).symm), upd x f.s v, hput f.s o ho x v, ⟨hkW.trans hkp, setFrom_below (Nat.le_trans hB e2) us 0 w1 hb⟩, fun j hj => ?_, hcl', fun f' hfe hfa => ?_, fun f1 hfe f2 hfe' hne h1 h2 => ?_, howk _ hkp (fun g2 t c h hex => setFrom_far (by obtain ⟨f2, h2, rfl⟩ := hex; have := (hO f2 h2).1.lt; omega) us 0 w1 h) hnow⟩
      · by_cases h : j = f.s
        · subst h; exact hRi _ _
        · rw [upd_ne _ _ h]; rw [getD_set hlt] at hj; exact hR _ _ _ _ (hr j (by simpa [h] using hj)) hkp
      · rw [upd_ne _ _ (hnb f' hfe)]
        rw [getD_set hlt] at hfa
        by_cases h : f'.a = f.a
        · have := huniqa f' hfe h
          subst this
          refine ⟨g, _, e1, e2, setFrom_blk us 0 w1 _ e3, fun h' => ?_, fun _ => hus _ hkp⟩
          rw [getD_set hlt] at h'; simp at h'
        · have n2 : f'.s ≠ f.s := fun h2 => h (by rw [huniq f' hfe h2])
          obtain ⟨g', c', d1, d2, d3, d4, d5⟩ := hf f' hfe (by simpa [hnb f' hfe] using hfa)
          have hgg : g' ≠ g := by
            rintro rfl
            exact hd f' hfe f hf1 h (by simpa [hnb f' hfe] using hfa) hal (d1.trans e1.symm)
          refine ⟨g', c', d1, d2, setFrom_far hgg us 0 w1 d3, fun h => d4 ?_, fun h => hPS f' hfe _ _ _ (d5 ?_) hkp⟩
          · rw [getD_set hlt] at h; simpa [n2] using h
          · rw [getD_set hlt] at h; simpa [n2] using h
      · rw [getD_set hlt] at h1 h2
        rw [upd_ne _ _ (hnb f1 hfe), upd_ne _ _ (hnb f2 hfe')]
        exact hd f1 hfe f2 hfe' hne (by simpa [hnb f1 hfe] using h1) (by simpa [hnb f2 hfe'] using h2)
    · obtain ⟨c, c1, c2, _⟩ := how f hf1
      have hc := c2 hunf
      subst hc
      obtain ⟨us, hus, hv⟩ := hv x w1 c1 hdep
      refine hv K' (fun v => hK _ _ ?_)
      have hkp : Below B w1 (setFrom w1 f.g f.o us) := setFrom_below (hO f hf1).2 us f.o w1 (Below.refl _ _)
      have hna : ∀ f3 ∈ es, f3.a ≠ f.s := fun f3 h3 h => (hnoe f3 h3).1 h.symm
      have hns : ∀ f3 ∈ es, f3.s ≠ f.s := fun f3 h3 h => (hnoe f3 h3).2 h.symm
      have hgl := (hO f hf1).1.lt
      refine ⟨Nat.le_trans hsz (Nat.le_of_eq (setFrom_size us f.o w1).symm), upd x f.s v, hput f.s o ho x v, ⟨hkW.trans hkp, setFrom_below (hO f hf1).2 us f.o w1 hb⟩, fun j hj => ?_, hcl', fun f' hfe hfa => ?_, fun f1 hfe f2 hfe' hne h1 h2 => ?_, fun f' hfo => ?_⟩
      · by_cases h : j = f.s
        · subst h; exact hRi _ _
        · rw [upd_ne _ _ h]; rw [getD_set hlt] at hj; exact hR _ _ _ _ (hr j (by simpa [h] using hj)) hkp
      · rw [upd_ne _ _ (hna f' hfe)]
        rw [getD_set hlt] at hfa
        have n2 := hns f' hfe
        obtain ⟨g', c', d1, d2, d3, d4, d5⟩ := hf f' hfe (by simpa [hna f' hfe] using hfa)
        refine ⟨g', c', d1, d2, setFrom_far (by omega) us f.o w1 d3, fun h => d4 ?_, fun h => hPS f' hfe _ _ _ (d5 ?_) hkp⟩
        · rw [getD_set hlt] at h; simpa [n2] using h
        · rw [getD_set hlt] at h; simpa [n2] using h
      · rw [getD_set hlt] at h1 h2
        rw [upd_ne _ _ (hna f1 hfe), upd_ne _ _ (hna f2 hfe')]
        exact hd f1 hfe f2 hfe' hne (by simpa [hna f1 hfe] using h1) (by simpa [hna f2 hfe'] using h2)
      · by_cases h : f'.s = f.s
        · have := huniq f' hfo h
          subst this
          refine ⟨_, setFrom_blk us f'.o w1 _ c1, fun h' => ?_, fun _ => hus _ hkp⟩
          rw [getD_set hlt] at h'; simp at h'
        · obtain ⟨c', d3, d4, d5⟩ := how f' hfo
          have hgg : f'.g ≠ f.g := fun h2 => h (by rw [hOd f' hfo f hf1 h2])
          refine ⟨c', setFrom_far hgg us f.o w1 d3, fun h2 => d4 ?_, fun h2 => hPO f' hfo _ _ _ (d5 ?_) hkp⟩
          · rw [getD_set hlt] at h2; simpa [h] using h2
          · rw [getD_set hlt] at h2; simpa [h] using h2
  · rintro L a w1 hs hr0 ⟨hsz, x, rfl, ⟨hkW, hb⟩, hr, hcl, hf, hd, how⟩
    have hallL : ∀ i, i < ops.size → L.getD i false = true := by
      intro i
      induction i using Nat.strongRecOn with
      | ind i ih =>
        intro hi
        cases h : L.getD i false
        · exfalso
          have : i ∈ Region.ready .any ops L := by
            refine mem_ready.2 ⟨?_, ops[i], Array.getElem?_eq_getElem hi, fun e he hbd => ?_⟩
            · rw [Array.getD_eq_getD_getElem?, Array.getElem?_eq_getElem (by omega)] at h ⊢; exact h
            · have h1 := hac i _ (Array.getElem?_eq_getElem hi) e he hbd
              exact ih e.on h1 (by omega)
          rw [hr0] at this; cases this
        · rfl
    refine hend x w1 hkW hb hsz (fun f hfo => ?_) (fun i hi => hr i (hallL i hi)) (fun f hfe => ?_) (fun f hfe f' hfe' hne => hd f hfe f' hfe' hne (hallL _ (hfs f hfe).1) (hallL _ (hfs f' hfe').1))
    · obtain ⟨c, c1, c2, c3⟩ := how f hfo
      refine ⟨c, c1, fun h => c2 ?_, fun h => c3 (hallL _ h)⟩
      rw [Array.getD_eq_getD_getElem?, Array.getElem?_eq_none (by omega)]; rfl
    obtain ⟨g, c, e1, e2, e3, _, e5⟩ := hf f hfe (hallL _ (hfs f hfe).1)
    exact ⟨g, c, e1, e2, e3, e5 (hallL _ (hfs f hfe).2)⟩
  · simp
  · have hz : ∀ j, (Array.replicate ops.size false).getD j false = false := by
      intro j; rw [Array.getD_eq_getD_getElem?, Array.getElem?_replicate]; split <;> rfl
    refine ⟨Nat.le_refl _, x0, rfl, ⟨(Below.refl B w).drew, (Below.refl B w).drew⟩, fun i h => ?_, fun i o _ h => ?_, fun f _ h => ?_, fun f _ f' _ _ h => ?_, fun f hfo => ⟨_, (hO f hfo).1.drew, fun _ => rfl, fun h => ?_⟩⟩ <;> rw [hz] at h <;> cases h
end

theorem ownDistB {ow : List OwnB} (h : ow.Pairwise (fun f f' => f.g ≠ f'.g)) : ∀ f ∈ ow, ∀ f' ∈ ow, f.g = f'.g → f = f' := by
  induction ow with
  | nil => intro f hf; cases hf
  | cons a l ih =>
    obtain ⟨h1, h2⟩ := List.pairwise_cons.1 h
    intro f hf f' hf' he
    rcases List.mem_cons.1 hf with h3 | h3
    · rcases List.mem_cons.1 hf' with h4 | h4
      · rw [h3, h4]
      · exact absurd (h3 ▸ he) (h1 _ h4)
    · rcases List.mem_cons.1 hf' with h4 | h4
      · exact absurd (h4 ▸ he).symm (h1 _ h3)
      · exact ih h2 f h3 f' h4 he
def AllBw (B : Nat) : List (Value → World → Prop) → Prop
  | [] => True
  | p :: l => (∀ v w w', p v w → Below B w w' → p v w') ∧ AllBw B l
theorem AllBw.get {B : Nat} : ∀ (l : List (Value → World → Prop)), AllBw B l → ∀ i v w w', l.getD i (fun _ _ => True) v w → Below B w w' → l.getD i (fun _ _ => True) v w' := by
  intro l
  induction l with
  | nil => intro _ i v w w' _ _; simp
  | cons p l ih =>
    intro h i v w w' hp hk
    cases i with
    | zero => exact h.1 v w w' hp hk
    | succ i => exact ih h.2 i v w w' hp hk
theorem bEq {B : Nat} (u : Value) : ∀ v w w', PEq u v w → Below B w w' → PEq u v w' := fun _ _ _ h _ => h
theorem bAny {B : Nat} : ∀ v w w', PAny v w → Below B w w' → PAny v w' := fun _ _ _ h _ => h
end Go.Proofs.YtoiijifnfdgfpaaGreatDoor

/- Plain laws of fractions: order, roots, grids. -/
namespace Bn
theorem wd_ext {l l' : List Nat} (hn : l.length = l'.length) (h : ∀ i, i < l.length → wd l i = wd l' i) : l = l' := by
  refine List.ext_getElem hn fun i h1 h2 => ?_
  have := h i h1
  rw [wd_get h1, wd_get h2] at this
  exact this
theorem wd_ne {l l' : List Nat} (hn : l.length = l'.length) (h : l ≠ l') : ∃ i, i < l.length ∧ wd l i ≠ wd l' i := by
  apply Classical.byContradiction
  intro hc
  apply h
  refine wd_ext hn fun i hi => ?_
  apply Classical.byContradiction
  intro e
  exact hc ⟨i, hi, e⟩
end Bn

/- Walks: fields that differ. -/
namespace Go.Proofs.YtoiijifnfdgfpaaGreatDoor
open Go Go.RowKit Bn
attribute [local go_sem ↓] Go.wp_at_zero Go.wp_at_succ
theorem b_words_ne (w : World) (A : Option Addr) (n c : Nat) (l : List Nat) (wa : Wd w A n c l) (A' : Option Addr) (n' c' : Nat) (l' : List Nat) (wb : Wd w A' n' c' l') (hne : l ≠ l') (hn : n ≤ 1000000000) (hn' : n' ≤ 1000000000) :
  Calls Tryz.prog 80 #[.slice A n c, .slice A' n' c'] w (RetV w (.bool false)) := by
 by_cases hnn : n' = n
 ·subst hnn
  obtain ⟨j, hj, hjn⟩ := wd_ne (by rw [← wa.2.1, ← wb.2.1]) hne
  rw [← wa.2.1] at hj
  have HA := Lib.hid wa
  have HB := Lib.hid wb
  have HJ := Lib.hid hjn
  clear wa wb hne hjn
  go_enter Tryz.func80, Tryz.ntmps80
  go_wp2_with fail
  go_loopw [5] (fun iv wr => ∃ (i q : Nat), i ≤ j ∧ iv = .int .i64 (i : Nat) ∧ wr = w.drewN q) (fun iv _ => n' - (intOf iv).toNat)
  case atStart => exact ⟨0, 0, Nat.zero_le _, rfl, rfl⟩
  case round =>
   obtain ⟨i, q, hi, rfl, rfl⟩ := hrel
   have hlt : i < n' := by omega
   obtain ⟨g, o, rfl, hc1⟩ := HA.out.at_ (by omega)
   obtain ⟨g', o', rfl, hc2⟩ := HB.out.at_ (by omega)
   have h1 := hc1 i hlt
   have h2 := hc2 i hlt
   have hi0 : (0 : Int) ≤ (i : Int) := by omega
   have hi1 : (i : Int) < (n' : Int) := by omega
   have HIJ := Lib.hid (show i = j → wd l i ≠ wd l' i by rintro rfl; exact HJ.out)
   generalize wd l i = x at h1 HIJ
   generalize wd l' i = y at h2 HIJ
   clear hc1 hc2
   by_cases hxy : x = y
   ·subst hxy
    have hij : i < j := by
     rcases Nat.lt_or_ge i j with h | h
     ·exact h
     ·exact absurd rfl (HIJ.out (by omega))
    go_wp2_with fail
    go_quiet (fail)
    go_wp2
    go_roundw
    case rel => exact ⟨i + 1, _, by omega, by go_num, rfl⟩
    case measure => simp [intOf]; omega
   ·have hxy2 : ¬ (x : Int) = (y : Int) := by omega
    go_wp2_with fail
    go_quiet (fail)
    go_wp2
    go_ret
    exact retB rfl (by repeat (first | exact Below.refl _ _ | refine below_drewN ?_ _))
 ·have e1 : ((n : Int) == (n' : Int)) = false := by simp; omega
  have e2 : ¬ (n : Int) = (n' : Int) := by omega
  clear wa wb
  go_enter Tryz.func80, Tryz.ntmps80
  go_wp2_with fail
  go_ret
  exact retB rfl (brefl w)
theorem b_rat_ne1 (w : World) (b : Bool) (A : Option Addr) (n c : Nat) (D : Option Addr) (m e : Nat) (r : RD) (k : Nat) (h : QD w b A n c D m e r k) (b' : Bool) (A' : Option Addr) (n' c' : Nat) (D' : Option Addr) (m' e' : Nat) (r' : RD) (k' : Nat) (h' : QD w b' A' n' c' D' m' e' r' k') (hne : b ≠ b') (hk : k ≤ 1000000) (hk' : k' ≤ 1000000) :
  Calls Tryz.prog 36 #[.agg #[.bool b, .slice A n c, .slice D m e], .agg #[.bool b', .slice A' n' c', .slice D' m' e']] w (RetV w (.bool false)) := by
 obtain ⟨e1, ha, hd, hk1, hk2⟩ := h
 obtain ⟨e1', ha', hd', hk1', hk2'⟩ := h'
 have HE : (b == b') = false := by simpa using hne
 have HE2 : ¬ b = b' := hne
 clear ha hd ha' hd' e1 e1'
 go_enter Tryz.func36, Tryz.ntmps36
 go_wp2_with fail
 go_ret
 exact retB rfl (((brefl w).alloc (Nat.le_refl _) _).alloc (by simp) _)
theorem b_rat_ne2 (w : World) (b : Bool) (A : Option Addr) (n c : Nat) (D : Option Addr) (m e : Nat) (r : RD) (k : Nat) (h : QD w b A n c D m e r k) (b' : Bool) (A' : Option Addr) (n' c' : Nat) (D' : Option Addr) (m' e' : Nat) (r' : RD) (k' : Nat) (h' : QD w b' A' n' c' D' m' e' r' k') (hbb : b = b') (hne : r.num ≠ r'.num) (hk : k ≤ 1000000) (hk' : k' ≤ 1000000) :
  Calls Tryz.prog 36 #[.agg #[.bool b, .slice A n c, .slice D m e], .agg #[.bool b', .slice A' n' c', .slice D' m' e']] w (RetV w (.bool false)) := by
 obtain ⟨e1, ha, hd, hk1, hk2⟩ := h
 obtain ⟨e1', ha', hd', hk1', hk2'⟩ := h'
 subst hbb
 have HE : (b == b) = true := by simp
 have HA := Lib.hid (And.intro ha ha')
 have HD := Lib.hid (And.intro hd hd')
 have HN := Lib.hid hne
 clear ha ha' hd hd' hne e1 e1'
 go_enter Tryz.func36, Tryz.ntmps36
 go_wp2_with fail
 (with_reducible refine (b_words_ne _ A n c r.num ?_ A' n' c' r'.num ?_ ?_ ?_ ?_).mono ?_); (exact HA.out.1.keep (((Kp.refl _).alloc _).alloc _)); (exact HA.out.2.keep (((Kp.refl _).alloc _).alloc _)); (exact HN.out); (omega); (omega); rintro e w1 ⟨rfl, hb⟩
 have q1 : Below w.heap.size w w1 := (((Below.refl _ _).alloc (Nat.le_refl _) _).alloc (by simp) _).trans (hb.mono (by simp <;> omega))
 have x0 : Blk w1 w.heap.size 72 #[.bool b, .slice A n c, .slice D m e] := ((blkAt w _ _ rfl).alloc _).below hb (by simp <;> omega)
 have x1 : Blk w1 (w.heap.size + 1) 72 #[.bool b, .slice A' n' c', .slice D' m' e'] := (blkAt _ _ _ (by simp)).below hb (by simp)
 have c02 : w1.cell? ⟨w.heap.size, 2, none⟩ = some (.slice D m e) := x0.cell 2
 have c12 : w1.cell? ⟨w.heap.size + 1, 2, none⟩ = some (.slice D' m' e') := x1.cell 2
 clear hb
 go_wp2_with fail
 go_ret
 exact ⟨rfl, q1⟩
theorem b_rat_ne3 (w : World) (b : Bool) (A : Option Addr) (n c : Nat) (D : Option Addr) (m e : Nat) (r : RD) (k : Nat) (h : QD w b A n c D m e r k) (b' : Bool) (A' : Option Addr) (n' c' : Nat) (D' : Option Addr) (m' e' : Nat) (r' : RD) (k' : Nat) (h' : QD w b' A' n' c' D' m' e' r' k') (hbb : b = b') (hnn : r.num = r'.num) (hne : r.den ≠ r'.den) (hk : k ≤ 1000000) (hk' : k' ≤ 1000000) :
  Calls Tryz.prog 36 #[.agg #[.bool b, .slice A n c, .slice D m e], .agg #[.bool b', .slice A' n' c', .slice D' m' e']] w (RetV w (.bool false)) := by
 obtain ⟨e1, ha, hd, hk1, hk2⟩ := h
 obtain ⟨e1', ha', hd', hk1', hk2'⟩ := h'
 rw [← hnn] at ha'
 subst hbb
 have HE : (b == b) = true := by simp
 have HA := Lib.hid (And.intro ha ha')
 have HD := Lib.hid (And.intro hd hd')
 have HN := Lib.hid hne
 clear ha ha' hd hd' hne e1 e1'
 go_enter Tryz.func36, Tryz.ntmps36
 go_wp2_with fail
 (with_reducible refine (b_words _ A n c r.num ?_ A' n' c' ?_ ?_).mono ?_); (exact HA.out.1.keep (((Kp.refl _).alloc _).alloc _)); (exact HA.out.2.keep (((Kp.refl _).alloc _).alloc _)); (omega); rintro e w1 ⟨rfl, hb⟩
 have q1 : Below w.heap.size w w1 := (((Below.refl _ _).alloc (Nat.le_refl _) _).alloc (by simp) _).trans (hb.mono (by simp <;> omega))
 have x0 : Blk w1 w.heap.size 72 #[.bool b, .slice A n c, .slice D m e] := ((blkAt w _ _ rfl).alloc _).below hb (by simp <;> omega)
 have x1 : Blk w1 (w.heap.size + 1) 72 #[.bool b, .slice A' n' c', .slice D' m' e'] := (blkAt _ _ _ (by simp)).below hb (by simp)
 have c02 : w1.cell? ⟨w.heap.size, 2, none⟩ = some (.slice D m e) := x0.cell 2
 have c12 : w1.cell? ⟨w.heap.size + 1, 2, none⟩ = some (.slice D' m' e') := x1.cell 2
 clear hb
 go_wp2_with fail
 (with_reducible refine (b_words_ne _ D m e r.den ?_ D' m' e' r'.den ?_ ?_ ?_ ?_).mono ?_); (exact HD.out.1.belw q1); (exact HD.out.2.belw q1); (exact HN.out); (omega); (omega); rintro e w2 ⟨rfl, hb2⟩
 go_wp2_with fail
 go_ret
 exact ⟨rfl, q1.trans (hb2.mono q1.size)⟩
end Go.Proofs.YtoiijifnfdgfpaaGreatDoor

/- Walks: linkworkbase.Rat, Body and Linkage, of any two. -/
namespace Go.Proofs.YtoiijifnfdgfpaaGreatDoor
open Go Go.RowKit Bn
attribute [local go_sem ↓] Go.wp_at_zero Go.wp_at_succ
theorem b_rat_eq (w : World) (b : Bool) (A : Option Addr) (n c : Nat) (D : Option Addr) (m e : Nat) (b' : Bool) (A' : Option Addr) (n' c' : Nat) (D' : Option Addr) (m' e' : Nat) (r : RD) (k k' : Nat) (h : QD w b A n c D m e r k) (h' : QD w b' A' n' c' D' m' e' r k') (hk : k ≤ 1000000) :
  Calls Tryz.prog 36 #[.agg #[.bool b, .slice A n c, .slice D m e], .agg #[.bool b', .slice A' n' c', .slice D' m' e']] w (RetV w (.bool true)) := by
 obtain ⟨e1, ha, hd, hk1, hk2⟩ := h
 obtain ⟨e1', ha', hd', _, _⟩ := h'
 subst e1 e1'
 have HE : (r.neg == r.neg) = true := by simp
 have HA := Lib.hid (And.intro ha ha')
 have HD := Lib.hid (And.intro hd hd')
 clear ha ha' hd hd'
 go_enter Tryz.func36, Tryz.ntmps36
 go_wp2_with fail
 (with_reducible refine (b_words _ A n c r.num ?_ A' n' c' ?_ ?_).mono ?_); (exact HA.out.1.keep (((Kp.refl _).alloc _).alloc _)); (exact HA.out.2.keep (((Kp.refl _).alloc _).alloc _)); (omega); rintro e w1 ⟨rfl, hb⟩
 have q1 : Below w.heap.size w w1 := (((Below.refl _ _).alloc (Nat.le_refl _) _).alloc (by simp) _).trans (hb.mono (by simp <;> omega))
 have x0 : Blk w1 w.heap.size 72 #[.bool r.neg, .slice A n c, .slice D m e] := ((blkAt w _ _ rfl).alloc _).below hb (by simp <;> omega)
 have x1 : Blk w1 (w.heap.size + 1) 72 #[.bool r.neg, .slice A' n' c', .slice D' m' e'] := (blkAt _ _ _ (by simp)).below hb (by simp)
 have c02 : w1.cell? ⟨w.heap.size, 2, none⟩ = some (.slice D m e) := x0.cell 2
 have c12 : w1.cell? ⟨w.heap.size + 1, 2, none⟩ = some (.slice D' m' e') := x1.cell 2
 clear hb
 go_wp2_with fail
 (with_reducible refine (b_words _ D m e r.den ?_ D' m' e' ?_ ?_).mono ?_); (exact HD.out.1.belw q1); (exact HD.out.2.belw q1); (omega); rintro e w2 ⟨rfl, hb2⟩
 go_wp2_with fail
 go_ret
 exact ⟨rfl, q1.trans (hb2.mono q1.size)⟩
theorem b_rat_d (w : World) (b : Bool) (A : Option Addr) (n c : Nat) (D : Option Addr) (m e : Nat) (b' : Bool) (A' : Option Addr) (n' c' : Nat) (D' : Option Addr) (m' e' : Nat) (r r' : RD) (k k' : Nat) (h : QD w b A n c D m e r k) (h' : QD w b' A' n' c' D' m' e' r' k') (hk : k ≤ 1000000) (hk' : k' ≤ 1000000) (v : Bool) (hv : v = true ↔ r = r') :
    Calls Tryz.prog 36 #[.agg #[.bool b, .slice A n c, .slice D m e], .agg #[.bool b', .slice A' n' c', .slice D' m' e']] w (RetV w (.bool v)) := by
  by_cases e1 : r = r'
  · subst e1
    rw [hv.2 rfl]
    exact b_rat_eq w b A n c D m e b' A' n' c' D' m' e' r k k' h h' hk
  · have hvf : v = false := by cases v; rfl; exact absurd (hv.1 rfl) e1
    subst hvf
    by_cases eb : b = b'
    · by_cases en : r.num = r'.num
      · refine b_rat_ne3 w b A n c D m e r k h b' A' n' c' D' m' e' r' k' h' eb en (fun ed => e1 ?_) hk hk'
        have hn : r.neg = r'.neg := by rw [h.1, h'.1, eb]
        obtain ⟨a1, a2, a3⟩ := r
        obtain ⟨b1, b2, b3⟩ := r'
        simp only at hn en ed
        rw [hn, en, ed]
      · exact b_rat_ne2 w b A n c D m e r k h b' A' n' c' D' m' e' r' k' h' eb en hk hk'
    · exact b_rat_ne1 w b A n c D m e r k h b' A' n' c' D' m' e' r' k' h' eb hk hk'
def Cells7 (w : World) (g o : Nat) (s : Value) (b1 : Bool) (A1 : Option Addr) (n1 c1 : Nat) (D1 : Option Addr) (m1 e1 : Nat) (b2 : Bool) (A2 : Option Addr) (n2 c2 : Nat) (D2 : Option Addr) (m2 e2 : Nat) : Prop :=
  w.cell? ⟨g, o, none⟩ = some s ∧ w.cell? ⟨g, o + 1, none⟩ = some (.bool b1) ∧ w.cell? ⟨g, o + 2, none⟩ = some (.slice A1 n1 c1) ∧ w.cell? ⟨g, o + 3, none⟩ = some (.slice D1 m1 e1) ∧ w.cell? ⟨g, o + 4, none⟩ = some (.bool b2) ∧ w.cell? ⟨g, o + 5, none⟩ = some (.slice A2 n2 c2) ∧ w.cell? ⟨g, o + 6, none⟩ = some (.slice D2 m2 e2)
section
variable {w w' : World} {g o : Nat} {s : Value} {b1 b2 : Bool} {A1 D1 A2 D2 : Option Addr} {n1 c1 m1 e1 n2 c2 m2 e2 : Nat}
theorem cells7 (h0 : w.cell? ⟨g, o, none⟩ = some s) (h1 : w.cell? ⟨g, o + 1, none⟩ = some (.bool b1)) (h2 : w.cell? ⟨g, o + 1 + 1, none⟩ = some (.slice A1 n1 c1)) (h3 : w.cell? ⟨g, o + 1 + 2, none⟩ = some (.slice D1 m1 e1)) (h4 : w.cell? ⟨g, o + 4, none⟩ = some (.bool b2)) (h5 : w.cell? ⟨g, o + 4 + 1, none⟩ = some (.slice A2 n2 c2)) (h6 : w.cell? ⟨g, o + 4 + 2, none⟩ = some (.slice D2 m2 e2)) : Cells7 w g o s b1 A1 n1 c1 D1 m1 e1 b2 A2 n2 c2 D2 m2 e2 := ⟨h0, h1, h2, h3, h4, h5, h6⟩
theorem cells7_belw (h : Cells7 w g o s b1 A1 n1 c1 D1 m1 e1 b2 A2 n2 c2 D2 m2 e2) (hb : Below w.heap.size w w') :
    w'.cell? ⟨g, o, none⟩ = some s ∧ w'.cell? ⟨g, o + 1, none⟩ = some (.bool b1) ∧ w'.cell? ⟨g, o + 2, none⟩ = some (.slice A1 n1 c1) ∧ w'.cell? ⟨g, o + 3, none⟩ = some (.slice D1 m1 e1) ∧ w'.cell? ⟨g, o + 4, none⟩ = some (.bool b2) ∧ w'.cell? ⟨g, o + 5, none⟩ = some (.slice A2 n2 c2) ∧ w'.cell? ⟨g, o + 6, none⟩ = some (.slice D2 m2 e2) :=
  ⟨cell_belw h.1 hb, cell_belw h.2.1 hb, cell_belw h.2.2.1 hb, cell_belw h.2.2.2.1 hb, cell_belw h.2.2.2.2.1 hb, cell_belw h.2.2.2.2.2.1 hb, cell_belw h.2.2.2.2.2.2 hb⟩
end
theorem bool_of (p : Prop) : ∃ v : Bool, v = true ↔ p := by
  by_cases h : p
  · exact ⟨true, by simp [h]⟩
  · exact ⟨false, by simp [h]⟩
theorem gt_jt : Tryz.prog.eqGuardType Tryz.prog.depth 60 = false := by kernel_rfl
theorem gh_jt : Tryz.prog.stoodInHeld 60 = false := by kernel_rfl
theorem gt_dr : Tryz.prog.eqGuardType Tryz.prog.depth 58 = false := by kernel_rfl
theorem gh_dr : Tryz.prog.stoodInHeld 58 = false := by kernel_rfl
theorem take_next {α : Type} {l m : List α} {i : Nat} {a : α} (h : l.take i = m.take i) (h1 : l[i]? = some a) (h2 : m[i]? = some a) : l.take (i + 1) = m.take (i + 1) := by rw [List.take_add_one, List.take_add_one, h, h1, h2]
theorem b_body_d (w : World) (A : Option Addr) (n c : Nat) (a : BodyL) (h : SlS (MkAt 1000000) 7 w A n c a.pts) (A' : Option Addr) (n' c' : Nat) (b : BodyL) (h' : SlS (MkAt 1000000) 7 w A' n' c' b.pts) (hn : n ≤ 1000) (v : Bool) (hv : v = true ↔ a = b) :
    Calls Tryz.prog 29 #[.agg #[strV a.name, .slice A n c], .agg #[strV b.name, .slice A' n' c']] w (RetV w (.bool v)) := by
  have H := Lib.hid (And.intro h h')
  have HV := Lib.hid hv
  clear h h' hv
  by_cases en : a.name = b.name
  · by_cases el : n = n'
    · subst el
      have hs : (a.name == b.name) = true := beq_iff_eq.2 en
      have HN := Lib.hid en
      have hnc := H.out.1.2.1
      have hnc' := H.out.2.2.1
      have HLA := Lib.hid H.out.1.1
      have HLB := Lib.hid H.out.2.1
      clear en
      go_enter Tryz.func29, Tryz.ntmps29
      go_wp2_with fail
      go_loopw [5] (fun iv wr => ∃ i : Nat, iv = .int .i64 (i : Nat) ∧ i ≤ n ∧ Hid (a.pts.take i = b.pts.take i) ∧ Blk wr w.heap.size 56 #[strV a.name, .slice A n c] ∧ Blk wr (w.heap.size + 1) 56 #[strV b.name, .slice A' n c'] ∧ Below w.heap.size w wr) (fun iv _ => n - (intOf iv).toNat)
      case atStart => exact ⟨0, rfl, Nat.zero_le _, Lib.hid rfl, (blkAt w _ _ rfl).alloc _, blkAt _ _ _ (by simp), ((brefl w).alloc (Nat.le_refl _) _).alloc (by simp) _⟩
      case round =>
        obtain ⟨i, rfl, hi, HI, xa, xb, bwa⟩ := hrel
        rename World => wa
        have hla : w.heap.size < wa.heap.size := xa.lt
        have hlb : w.heap.size + 1 < wa.heap.size := xb.lt
        rcases Nat.lt_or_ge i n with hlt | hge
        · have hi1 : ((i : Int) < (n : Int)) = True := by simp; omega
          obtain ⟨g, o, x, e1, hg, _, hxi, hX⟩ := H.out.1.at_ hlt
          subst e1
          obtain ⟨g9, o9, y, e1, hg9, _, hyi, hY⟩ := H.out.2.at_ hlt
          subst e1
          have ca1 := xa.cell 1
          obtain ⟨d0, ⟨b1, A1, n1, c1, D1, m1, e1, d1, d2, d3, hQ1⟩, ⟨b2, A2, n2, c2, D2, m2, e2, d4, d5, d6, hQ2⟩, _⟩ := hX
          obtain ⟨f0, ⟨b3, A3, n3, c3, D3, m3, e3, f1, f2, f3, hQ3⟩, ⟨b4, A4, n4, c4, D4, m4, e4, f4, f5, f6, hQ4⟩, _⟩ := hY
          have HM1 := Lib.hid (cells7 d0 d1 d2 d3 d4 d5 d6)
          have HM2 := Lib.hid (cells7 f0 f1 f2 f3 f4 f5 f6)
          have HQ := Lib.hid (And.intro hQ1 (And.intro hQ2 (And.intro hQ3 hQ4)))
          have HXI := Lib.hid (And.intro hxi hyi)
          clear d0 d1 d2 d3 d4 d5 d6 f0 f1 f2 f3 f4 f5 f6 hQ1 hQ2 hQ3 hQ4 hxi hyi
          go_wp2_with fail
          clear ca1
          have hi2 : ((i : Int) < (n : Int)) := by omega
          refine wp_region_own (B := w.heap.size) (fr := fun xf => ⟨List.toArray (.agg #[strV a.name, .slice (some ⟨g, o, none⟩) n c] :: .agg #[strV b.name, .slice (some ⟨g9, o9, none⟩) n c'] :: .pointer (some ⟨w.heap.size, 0, none⟩) :: .pointer (some ⟨w.heap.size + 1, 0, none⟩) :: u4 :: .int .i64 (i : Nat) :: xf 10 :: xf 11 :: .pointer (some ⟨w.heap.size, 0, none⟩) :: strV a.name :: .pointer (some ⟨w.heap.size + 1, 0, none⟩) :: strV b.name :: .bool false :: .bool false :: .pointer (some ⟨w.heap.size, 1, none⟩) :: .slice (some ⟨g, o, none⟩) n c :: .int .i64 (n : Nat) :: .pointer (some ⟨w.heap.size + 1, 1, none⟩) :: .slice (some ⟨g9, o9, none⟩) n c' :: .int .i64 (n : Nat) :: .bool false :: .bool false :: .int .i64 (i : Nat) :: .pointer (some ⟨w.heap.size, 1, none⟩) :: .slice (some ⟨g, o, none⟩) n c :: .int .i64 (n : Nat) :: .bool true :: u27 :: u28 :: xf 0 :: xf 1 :: xf 2 :: xf 3 :: xf 4 :: xf 5 :: xf 6 :: xf 7 :: xf 8 :: xf 9 :: u39 :: u40 :: u41 :: u42 :: u43 :: u44 :: u45 :: u46 :: u47 :: u48 :: u49 :: u50 :: u51 :: u52 :: u53 :: u54 :: u55 :: u56 :: u57 :: u58 :: u59 :: []), []⟩) (R := fun ri => List.getD ((PEq (.pointer (some ⟨w.heap.size, 1, none⟩))) :: (PEq (.slice (some ⟨g, o, none⟩) n c)) :: (PEq (.int .i64 (i : Nat))) :: (PEq (.pointer (some ⟨g, o + i * 7, none⟩))) :: (PEq (.agg #[strV x.name, .bool b1, .slice A1 n1 c1, .slice D1 m1 e1, .bool b2, .slice A2 n2 c2, .slice D2 m2 e2])) :: (PEq (.pointer (some ⟨w.heap.size + 1, 1, none⟩))) :: (PEq (.slice (some ⟨g9, o9, none⟩) n c')) :: (PEq (.int .i64 (i : Nat))) :: (PEq (.pointer (some ⟨g9, o9 + i * 7, none⟩))) :: (PEq (.agg #[strV y.name, .bool b3, .slice A3 n3 c3, .slice D3 m3 e3, .bool b4, .slice A4 n4 c4, .slice D4 m4 e4])) :: PAny :: PAny :: PAny :: PAny :: []) ri (fun _ _ => True)) (es := [⟨10, 12, 85, #[.string ⟨#[]⟩, .bool false, .slice none 0 0, .slice none 0 0, .bool false, .slice none 0 0, .slice none 0 0], fun cz _ => cz = #[strV x.name, .bool b1, .slice A1 n1 c1, .slice D1 m1 e1, .bool b2, .slice A2 n2 c2, .slice D2 m2 e2]⟩, ⟨11, 13, 85, #[.string ⟨#[]⟩, .bool false, .slice none 0 0, .slice none 0 0, .bool false, .slice none 0 0, .slice none 0 0], fun cz _ => cz = #[strV y.name, .bool b3, .slice A3 n3 c3, .slice D3 m3 e3, .bool b4, .slice A4 n4 c4, .slice D4 m4 e4]⟩]) (ow := [⟨w.heap.size, 14, 0, 56, #[strV a.name, .slice (some ⟨g, o, none⟩) n c], fun _ _ => True⟩, ⟨w.heap.size + 1, 14, 0, 56, #[strV b.name, .slice (some ⟨g9, o9, none⟩) n c'], fun _ _ => True⟩]) (x0 := (upd (upd (upd (upd (upd (upd (upd (upd (upd (upd (upd (upd (fun _ => undef) 0 u29) 1 u30) 2 u31) 3 u32) 4 u33) 5 u34) 6 u35) 7 u36) 8 u37) 9 u38) 10 u6) 11 u7)) (by kernel_rfl)
            (each_of ⟨fun _ _ => rfl, fun _ _ => rfl, fun _ _ => rfl, fun _ _ => rfl, fun _ _ => rfl, fun _ _ => rfl, fun _ _ => rfl, fun _ _ => rfl, fun _ _ => rfl, fun _ _ => rfl, fun _ _ => rfl, fun _ _ => rfl, fun _ _ => rfl, fun _ _ => rfl, trivial⟩) (each_of (acyc_from _ 0 (by kernel_rfl))) (AllBw.get _ ⟨bEq _, bEq _, bEq _, bEq _, bEq _, bEq _, bEq _, bEq _, bEq _, bEq _, bAny, bAny, bAny, bAny, trivial⟩)
            (List.forall_mem_cons.2 ⟨fun _ _ _ h _ => h, List.forall_mem_cons.2 ⟨fun _ _ _ h _ => h, fun _ h => nomatch h⟩⟩) (List.forall_mem_cons.2 ⟨fun _ _ _ _ _ => True.intro, List.forall_mem_cons.2 ⟨fun _ _ _ _ _ => True.intro, fun _ h => nomatch h⟩⟩) (List.forall_mem_cons.2 ⟨⟨by simp, by simp⟩, List.forall_mem_cons.2 ⟨⟨by simp, by simp⟩, fun _ h => nomatch h⟩⟩) bwa.size
            (List.forall_mem_cons.2 ⟨⟨xa, Nat.le_refl _⟩, List.forall_mem_cons.2 ⟨⟨xb, by show w.heap.size ≤ w.heap.size + 1; omega⟩, fun _ h => nomatch h⟩⟩) (ownDistB (by simp <;> omega))
            (each_of ⟨?_, ?_, ?_, ?_, ?_, ?_, ?_, ?_, ?_, ?_, ?_, ?_, ?_, ?_, trivial⟩) ?_
          · exact .inl ⟨by simp, by simp, fun xf wq hk hbl hd K hK => by
              (try dsimp only)
              go_simp
              have hz := hK.out (.pointer (some ⟨w.heap.size, 1, none⟩)) _ rfl (brefl _)
              exact hz⟩
          · exact .inl ⟨by simp, by simp, fun xf wq hk hbl hd K hK => by
              have dq0 : xf 0 = .pointer (some ⟨w.heap.size, 1, none⟩) := hd ⟨0, .data⟩ (by simp) rfl
              have y : Blk wq w.heap.size 56 #[strV a.name, .slice (some ⟨g, o, none⟩) n c] := hbl _ (List.Mem.head _) (by simp [Region.binds])
              have hc1 : wq.cell? ⟨w.heap.size, 1, none⟩ = some (.slice (some ⟨g, o, none⟩) n c) := y.cell 1
              (try dsimp only); (try simp only [dq0])
              go_simp
              have hz := hK.out (.slice (some ⟨g, o, none⟩) n c) _ rfl (brefl _)
              simp only [dq0] at hz
              exact hz⟩
          · exact .inl ⟨by simp, by simp, fun xf wq hk hbl hd K hK => by
              (try dsimp only)
              go_simp
              have hz := hK.out (.int .i64 (i : Nat)) _ rfl (brefl _)
              exact hz⟩
          · exact .inl ⟨by simp, by simp, fun xf wq hk hbl hd K hK => by
              have dq1 : xf 1 = .slice (some ⟨g, o, none⟩) n c := hd ⟨1, .data⟩ (by simp) rfl
              have dq2 : xf 2 = .int .i64 (i : Nat) := hd ⟨2, .data⟩ (by simp) rfl
              (try dsimp only); (try simp only [dq1, dq2])
              go_simp
              have hz := hK.out (.pointer (some ⟨g, o + i * 7, none⟩)) _ rfl (brefl _)
              simp only [dq1, dq2] at hz
              exact hz⟩
          · exact .inl ⟨by simp, by simp, fun xf wq hk hbl hd K hK => by
              have dq3 : xf 3 = .pointer (some ⟨g, o + i * 7, none⟩) := hd ⟨3, .data⟩ (by simp) rfl
              obtain ⟨k0, k1, k2, k3, k4, k5, k6⟩ := cells7_belw HM1.out (bwa.trans hk)
              (try dsimp only); (try simp only [dq3])
              go_simp
              have hz := hK.out (.agg #[strV x.name, .bool b1, .slice A1 n1 c1, .slice D1 m1 e1, .bool b2, .slice A2 n2 c2, .slice D2 m2 e2]) _ rfl (brefl _)
              simp only [dq3] at hz
              exact hz⟩
          · exact .inl ⟨by simp, by simp, fun xf wq hk hbl hd K hK => by
              (try dsimp only)
              go_simp
              have hz := hK.out (.pointer (some ⟨w.heap.size + 1, 1, none⟩)) _ rfl (brefl _)
              exact hz⟩
          · exact .inl ⟨by simp, by simp, fun xf wq hk hbl hd K hK => by
              have dq5 : xf 5 = .pointer (some ⟨w.heap.size + 1, 1, none⟩) := hd ⟨5, .data⟩ (by simp) rfl
              have y : Blk wq (w.heap.size + 1) 56 #[strV b.name, .slice (some ⟨g9, o9, none⟩) n c'] := hbl _ (List.Mem.tail _ (List.Mem.head _)) (by simp [Region.binds])
              have hc1 : wq.cell? ⟨w.heap.size + 1, 1, none⟩ = some (.slice (some ⟨g9, o9, none⟩) n c') := y.cell 1
              (try dsimp only); (try simp only [dq5])
              go_simp
              have hz := hK.out (.slice (some ⟨g9, o9, none⟩) n c') _ rfl (brefl _)
              simp only [dq5] at hz
              exact hz⟩
          · exact .inl ⟨by simp, by simp, fun xf wq hk hbl hd K hK => by
              (try dsimp only)
              go_simp
              have hz := hK.out (.int .i64 (i : Nat)) _ rfl (brefl _)
              exact hz⟩
          · exact .inl ⟨by simp, by simp, fun xf wq hk hbl hd K hK => by
              have dq6 : xf 6 = .slice (some ⟨g9, o9, none⟩) n c' := hd ⟨6, .data⟩ (by simp) rfl
              have dq7 : xf 7 = .int .i64 (i : Nat) := hd ⟨7, .data⟩ (by simp) rfl
              (try dsimp only); (try simp only [dq6, dq7])
              go_simp
              have hz := hK.out (.pointer (some ⟨g9, o9 + i * 7, none⟩)) _ rfl (brefl _)
              simp only [dq6, dq7] at hz
              exact hz⟩
          · exact .inl ⟨by simp, by simp, fun xf wq hk hbl hd K hK => by
              have dq8 : xf 8 = .pointer (some ⟨g9, o9 + i * 7, none⟩) := hd ⟨8, .data⟩ (by simp) rfl
              obtain ⟨k0, k1, k2, k3, k4, k5, k6⟩ := cells7_belw HM2.out (bwa.trans hk)
              (try dsimp only); (try simp only [dq8])
              go_simp
              have hz := hK.out (.agg #[strV y.name, .bool b3, .slice A3 n3 c3, .slice D3 m3 e3, .bool b4, .slice A4 n4 c4, .slice D4 m4 e4]) _ rfl (brefl _)
              simp only [dq8] at hz
              exact hz⟩
          · exact .inr (.inl ⟨⟨10, 12, 85, #[.string ⟨#[]⟩, .bool false, .slice none 0 0, .slice none 0 0, .bool false, .slice none 0 0, .slice none 0 0], fun cz _ => cz = #[strV x.name, .bool b1, .slice A1 n1 c1, .slice D1 m1 e1, .bool b2, .slice A2 n2 c2, .slice D2 m2 e2]⟩, by simp, rfl, by simp, by simp, by simp, fun _ _ => True.intro, fun xf wq K hK => by
              (try dsimp only)
              go_simp
              exact hK.out⟩)
          · exact .inr (.inl ⟨⟨11, 13, 85, #[.string ⟨#[]⟩, .bool false, .slice none 0 0, .slice none 0 0, .bool false, .slice none 0 0, .slice none 0 0], fun cz _ => cz = #[strV y.name, .bool b3, .slice A3 n3 c3, .slice D3 m3 e3, .bool b4, .slice A4 n4 c4, .slice D4 m4 e4]⟩, by simp, rfl, by simp, by simp, by simp, fun _ _ => True.intro, fun xf wq K hK => by
              (try dsimp only)
              go_simp
              exact hK.out⟩)
          · exact .inr (.inr (.inl ⟨⟨10, 12, 85, #[.string ⟨#[]⟩, .bool false, .slice none 0 0, .slice none 0 0, .bool false, .slice none 0 0, .slice none 0 0], fun cz _ => cz = #[strV x.name, .bool b1, .slice A1 n1 c1, .slice D1 m1 e1, .bool b2, .slice A2 n2 c2, .slice D2 m2 e2]⟩, by simp, rfl, by simp, by simp, by simp, by simp, True.intro, fun _ _ => True.intro, ⟨⟨10, .data⟩, by simp, rfl, rfl⟩, fun xf wq g7 hx hblk hd => by
              have dq4 : xf 4 = .agg #[strV x.name, .bool b1, .slice A1 n1 c1, .slice D1 m1 e1, .bool b2, .slice A2 n2 c2, .slice D2 m2 e2] := hd ⟨4, .data⟩ (by simp) rfl
              dsimp only at hx hblk
              refine ⟨[strV x.name, .bool b1, .slice A1 n1 c1, .slice D1 m1 e1, .bool b2, .slice A2 n2 c2, .slice D2 m2 e2], fun w' hk => rfl, fun K hK => ?_⟩
              have hc0 : wq.cell? ⟨g7, 0, none⟩ = some (.string ⟨#[]⟩) := hblk.cell 0
              have hc1 : wq.cell? ⟨g7, 1, none⟩ = some (.bool false) := hblk.cell 1
              have hc2 : wq.cell? ⟨g7, 2, none⟩ = some (.slice none 0 0) := hblk.cell 2
              have hc3 : wq.cell? ⟨g7, 3, none⟩ = some (.slice none 0 0) := hblk.cell 3
              have hc4 : wq.cell? ⟨g7, 4, none⟩ = some (.bool false) := hblk.cell 4
              have hc5 : wq.cell? ⟨g7, 5, none⟩ = some (.slice none 0 0) := hblk.cell 5
              have hc6 : wq.cell? ⟨g7, 6, none⟩ = some (.slice none 0 0) := hblk.cell 6
              have hf0 : wq.frozen? ⟨g7, 0, none⟩ = false := hblk.frozen 0
              have hf1 : wq.frozen? ⟨g7, 1, none⟩ = false := hblk.frozen 1
              have hf2 : wq.frozen? ⟨g7, 2, none⟩ = false := hblk.frozen 2
              have hf3 : wq.frozen? ⟨g7, 3, none⟩ = false := hblk.frozen 3
              have hf4 : wq.frozen? ⟨g7, 4, none⟩ = false := hblk.frozen 4
              have hf5 : wq.frozen? ⟨g7, 5, none⟩ = false := hblk.frozen 5
              have hf6 : wq.frozen? ⟨g7, 6, none⟩ = false := hblk.frozen 6
              (try dsimp only)
              simp only [hx, dq4]
              go_simp
              have hz := hK.out undef
              simp only [hx, dq4] at hz
              exact hz⟩))
          · exact .inr (.inr (.inl ⟨⟨11, 13, 85, #[.string ⟨#[]⟩, .bool false, .slice none 0 0, .slice none 0 0, .bool false, .slice none 0 0, .slice none 0 0], fun cz _ => cz = #[strV y.name, .bool b3, .slice A3 n3 c3, .slice D3 m3 e3, .bool b4, .slice A4 n4 c4, .slice D4 m4 e4]⟩, by simp, rfl, by simp, by simp, by simp, by simp, True.intro, fun _ _ => True.intro, ⟨⟨11, .data⟩, by simp, rfl, rfl⟩, fun xf wq g7 hx hblk hd => by
              have dq9 : xf 9 = .agg #[strV y.name, .bool b3, .slice A3 n3 c3, .slice D3 m3 e3, .bool b4, .slice A4 n4 c4, .slice D4 m4 e4] := hd ⟨9, .data⟩ (by simp) rfl
              dsimp only at hx hblk
              refine ⟨[strV y.name, .bool b3, .slice A3 n3 c3, .slice D3 m3 e3, .bool b4, .slice A4 n4 c4, .slice D4 m4 e4], fun w' hk => rfl, fun K hK => ?_⟩
              have hc0 : wq.cell? ⟨g7, 0, none⟩ = some (.string ⟨#[]⟩) := hblk.cell 0
              have hc1 : wq.cell? ⟨g7, 1, none⟩ = some (.bool false) := hblk.cell 1
              have hc2 : wq.cell? ⟨g7, 2, none⟩ = some (.slice none 0 0) := hblk.cell 2
              have hc3 : wq.cell? ⟨g7, 3, none⟩ = some (.slice none 0 0) := hblk.cell 3
              have hc4 : wq.cell? ⟨g7, 4, none⟩ = some (.bool false) := hblk.cell 4
              have hc5 : wq.cell? ⟨g7, 5, none⟩ = some (.slice none 0 0) := hblk.cell 5
              have hc6 : wq.cell? ⟨g7, 6, none⟩ = some (.slice none 0 0) := hblk.cell 6
              have hf0 : wq.frozen? ⟨g7, 0, none⟩ = false := hblk.frozen 0
              have hf1 : wq.frozen? ⟨g7, 1, none⟩ = false := hblk.frozen 1
              have hf2 : wq.frozen? ⟨g7, 2, none⟩ = false := hblk.frozen 2
              have hf3 : wq.frozen? ⟨g7, 3, none⟩ = false := hblk.frozen 3
              have hf4 : wq.frozen? ⟨g7, 4, none⟩ = false := hblk.frozen 4
              have hf5 : wq.frozen? ⟨g7, 5, none⟩ = false := hblk.frozen 5
              have hf6 : wq.frozen? ⟨g7, 6, none⟩ = false := hblk.frozen 6
              (try dsimp only)
              simp only [hx, dq9]
              go_simp
              have hz := hK.out undef
              simp only [hx, dq9] at hz
              exact hz⟩))
          intro y7 w7 kq hbl lw how _ hfl hds
          obtain ⟨_, za, ez, _⟩ := how _ (List.Mem.head _)
          obtain rfl := ez (by simp)
          obtain ⟨_, zb, ez, _⟩ := how _ (List.Mem.tail _ (List.Mem.head _))
          obtain rfl := ez (by simp)
          obtain ⟨g6, _, eg6, Gg6, xg6, rfl⟩ := hfl _ (List.Mem.head _)
          obtain ⟨g7, _, eg7, Gg7, xg7, rfl⟩ := hfl _ (List.Mem.tail _ (List.Mem.head _))
          dsimp only at za zb eg6 Gg6 xg6 eg7 Gg7 xg7
          clear how hfl hds ez
          have bw7 := bwa.trans kq
          have lg6 : g6 < w7.heap.size := xg6.lt
          have lg7 : g7 < w7.heap.size := xg7.lt
          (try dsimp only)
          simp only [eg6, eg7]
          clear eg6 eg7
          obtain ⟨k0, k1, k2, k3, k4, k5, k6⟩ := xg6.c7
          obtain ⟨l0, l1, l2, l3, l4, l5, l6⟩ := xg7.c7
          by_cases hnm : x.name = y.name
          · have hnb : (x.name == y.name) = true := beq_iff_eq.2 hnm
            have HNM := Lib.hid hnm
            clear hnm
            obtain ⟨v1, hv1⟩ := bool_of (x.x = y.x)
            obtain ⟨v2, hv2⟩ := bool_of (x.y = y.y)
            have HV1 := Lib.hid hv1
            have HV2 := Lib.hid hv2
            clear hv1 hv2
            go_wp2_with fail
            (with_reducible refine (b_rat_d w7 b1 A1 n1 c1 D1 m1 e1 b3 A3 n3 c3 D3 m3 e3 x.x y.x 1000000 1000000 (HQ.out.1.belw bw7) (HQ.out.2.2.1.belw bw7) (by decide) (by decide) v1 HV1.out).mono ?_); rintro e' w8 ⟨rfl, hb8⟩
            have bw8 := bw7.trans (hb8.mono bw7.size)
            have za8 := za.below hb8 za.lt
            have zb8 := zb.below hb8 zb.lt
            have y6 := xg6.below hb8 xg6.lt
            have y7' := xg7.below hb8 xg7.lt
            clear k0 k1 k2 k3 k4 k5 k6 l0 l1 l2 l3 l4 l5 l6
            cases v1
            · have hvf : v = false := by
                cases v
                · rfl
                · exfalso
                  have := HV.out.1 rfl
                  subst this
                  have h9 := HXI.out.1.symm.trans HXI.out.2
                  injection h9 with h9
                  subst h9
                  exact absurd (HV1.out.2 rfl) (by decide)
              subst hvf
              go_wp2_with fail
              go_ret
              exact ⟨rfl, bw8⟩
            · have lg6 : g6 < w8.heap.size := y6.lt
              have lg7 : g7 < w8.heap.size := y7'.lt
              obtain ⟨k0, k1, k2, k3, k4, k5, k6⟩ := y6.c7
              obtain ⟨l0, l1, l2, l3, l4, l5, l6⟩ := y7'.c7
              go_wp2_with fail
              (with_reducible refine (b_rat_d w8 b2 A2 n2 c2 D2 m2 e2 b4 A4 n4 c4 D4 m4 e4 x.y y.y 1000000 1000000 (HQ.out.2.1.belw bw8) (HQ.out.2.2.2.belw bw8) (by decide) (by decide) v2 HV2.out).mono ?_); rintro e' w9 ⟨rfl, hb9⟩
              have bw9 := bw8.trans (hb9.mono bw8.size)
              have za9 := za8.below hb9 za8.lt
              have zb9 := zb8.below hb9 zb8.lt
              clear k0 k1 k2 k3 k4 k5 k6 l0 l1 l2 l3 l4 l5 l6
              cases v2
              · have hvf : v = false := by
                  cases v
                  · rfl
                  · exfalso
                    have := HV.out.1 rfl
                    subst this
                    have h9 := HXI.out.1.symm.trans HXI.out.2
                    injection h9 with h9
                    subst h9
                    exact absurd (HV2.out.2 rfl) (by decide)
                subst hvf
                go_wp2_with fail
                go_ret
                exact ⟨rfl, bw9⟩
              · have hxy : x = y := by
                  have e1 := HNM.out
                  have e2 := HV1.out.1 (by simp)
                  have e3 := HV2.out.1 (by simp)
                  obtain ⟨x1, x2, x3⟩ := x
                  obtain ⟨y1, y2, y3⟩ := y
                  simp only at e1 e2 e3
                  rw [e1, e2, e3]
                have HI2 : Hid (a.pts.take (i + 1) = b.pts.take (i + 1)) := Lib.hid (take_next HI.out HXI.out.1 (by rw [hxy]; exact HXI.out.2))
                clear hxy
                go_wp2_with fail
                go_roundw
                case rel => exact ⟨i + 1, by go_num, by omega, HI2, za9, zb9, bw9⟩
                case measure => simp [intOf]; omega
          · have hnb : (x.name == y.name) = false := beq_eq_false_iff_ne.2 hnm
            have hvf : v = false := by
              cases v
              · rfl
              · exfalso
                have := HV.out.1 rfl
                subst this
                have h9 := HXI.out.1.symm.trans HXI.out.2
                injection h9 with h9
                exact hnm (by rw [h9])
            subst hvf
            clear hnm
            go_wp2_with fail
            go_ret
            exact ⟨rfl, bw7⟩
        · have hi1 : ((i : Int) < (n : Int)) = False := by simp; omega
          have e2 : a.pts = b.pts := by
            have := HI.out
            rwa [List.take_of_length_le (by rw [HLA.out]; exact hge), List.take_of_length_le (by rw [HLB.out]; exact hge)] at this
          have hvt : v = true := HV.out.2 (by
            have e1 := HN.out
            obtain ⟨a1, a2⟩ := a
            obtain ⟨b1, b2⟩ := b
            simp only at e1 e2
            rw [e1, e2])
          subst hvt
          have ca1 := xa.cell 1
          clear e2
          go_wp2_with fail
          go_ret
          exact ⟨rfl, bwa⟩
    · have el2 : ((n : Int) == (n' : Int)) = false := by simp; omega
      have el3 : ¬ (n : Int) = (n' : Int) := by omega
      have hvf : v = false := by
        cases v
        · rfl
        · exfalso
          have := HV.out.1 rfl
          subst this
          exact el (H.out.1.1.symm.trans H.out.2.1)
      subst hvf
      have hs : (a.name == b.name) = true := beq_iff_eq.2 en
      clear en
      go_enter Tryz.func29, Tryz.ntmps29
      go_wp2_with fail
      go_ret
      exact ⟨rfl, ((brefl w).alloc (Nat.le_refl _) _).alloc (by simp) _⟩
  · have hs : (a.name == b.name) = false := beq_eq_false_iff_ne.2 en
    have hvf : v = false := by
      cases v
      · rfl
      · exact absurd (by rw [HV.out.1 rfl]) en
    subst hvf
    clear en
    go_enter Tryz.func29, Tryz.ntmps29
    go_wp2_with fail
    go_ret
    exact ⟨rfl, ((brefl w).alloc (Nat.le_refl _) _).alloc (by simp) _⟩
end Go.Proofs.YtoiijifnfdgfpaaGreatDoor

/- Walks: linkworkbase.Linkage, of any two. -/
namespace Go.Proofs.YtoiijifnfdgfpaaGreatDoor
open Go Go.RowKit Bn
attribute [local go_sem ↓] Go.wp_at_zero Go.wp_at_succ
theorem b_link_d (w : World) (A : Option Addr) (n c : Nat) (B : Option Addr) (p d : Nat) (C : Option Addr) (q e : Nat) (L : LinkL) (h : LkS 1000000 w A n c B p d C q e L) (A' : Option Addr) (n' c' : Nat) (B' : Option Addr) (p' d' : Nat) (C' : Option Addr) (q' e' : Nat) (M : LinkL) (h' : LkS 1000000 w A' n' c' B' p' d' C' q' e' M) (hps : ∀ b ∈ L.bodies, b.pts.length ≤ 1000) (hn : n ≤ 1000) (hp : p ≤ 1000) (hq : q ≤ 1000) (v : Bool) (hv : v = true ↔ L = M) :
    Calls Tryz.prog 20 #[.agg #[strV L.name, .slice A n c, .slice B p d, .slice C q e], .agg #[strV M.name, .slice A' n' c', .slice B' p' d', .slice C' q' e']] w (RetV w (.bool v)) := by
  have H := Lib.hid h
  have H' := Lib.hid h'
  have HV := Lib.hid hv
  have HPS := Lib.hid hps
  have HLen := Lib.hid (And.intro (And.intro h.bodies.1 h'.bodies.1) (And.intro (And.intro h.joints.1 h'.joints.1) (And.intro h.drivers.1 h'.drivers.1)))
  have hnc := h.bodies.2.1
  have hnc' := h'.bodies.2.1
  have hpd := h.joints.2.1
  have hpd' := h'.joints.2.1
  have hqe := h.drivers.2.1
  have hqe' := h'.drivers.2.1
  clear h h' hv hps
  have hno : ∀ (P : Prop), P → (L = M → ¬ P) → v = false := by
    intro P hP hne
    cases v
    · rfl
    · exact absurd hP (hne (HV.out.1 rfl))
  have HNO := Lib.hid hno
  clear hno
  have q00 : Below w.heap.size w ((w.alloc (.cells #[strV L.name, .slice A n c, .slice B p d, .slice C q e] 36)).alloc (.cells #[strV M.name, .slice A' n' c', .slice B' p' d', .slice C' q' e'] 36)) := ((brefl w).alloc (Nat.le_refl _) _).alloc (by simp) _
  by_cases en : L.name = M.name
  rotate_left
  · have hs : (L.name == M.name) = false := beq_eq_false_iff_ne.2 en
    have hvf := HNO.out _ en (fun h => by rw [h]; simp)
    subst hvf
    clear en
    go_enter Tryz.func20, Tryz.ntmps20
    go_wp2_with fail
    go_ret
    exact ⟨rfl, q00⟩
  have hs : (L.name == M.name) = true := beq_iff_eq.2 en
  have HN := Lib.hid en
  clear en
  by_cases e1 : n = n'
  rotate_left
  · have f1 : ((n : Int) == (n' : Int)) = false := by simp; omega
    have f2 : ¬ (n : Int) = (n' : Int) := by omega
    have hvf := HNO.out _ e1 (fun h => by rw [← HLen.out.1.1, ← HLen.out.1.2, h]; simp)
    subst hvf
    clear e1
    go_enter Tryz.func20, Tryz.ntmps20
    go_wp2_with fail
    go_ret
    exact ⟨rfl, q00⟩
  subst e1
  by_cases e2 : p = p'
  rotate_left
  · have f1 : ((p : Int) == (p' : Int)) = false := by simp; omega
    have f2 : ¬ (p : Int) = (p' : Int) := by omega
    have hvf := HNO.out _ e2 (fun h => by rw [← HLen.out.2.1.1, ← HLen.out.2.1.2, h]; simp)
    subst hvf
    clear e2
    go_enter Tryz.func20, Tryz.ntmps20
    go_wp2_with fail
    go_ret
    exact ⟨rfl, q00⟩
  subst e2
  by_cases e3 : q = q'
  rotate_left
  · have f1 : ((q : Int) == (q' : Int)) = false := by simp; omega
    have f2 : ¬ (q : Int) = (q' : Int) := by omega
    have hvf := HNO.out _ e3 (fun h => by rw [← HLen.out.2.2.1, ← HLen.out.2.2.2, h]; simp)
    subst hvf
    clear e3
    go_enter Tryz.func20, Tryz.ntmps20
    go_wp2_with fail
    go_ret
    exact ⟨rfl, q00⟩
  subst e3
  go_enter Tryz.func20, Tryz.ntmps20
  go_wp2_with fail
  go_loopw [5] (fun iv wr => ∃ i : Nat, iv = .int .i64 (i : Nat) ∧ i ≤ n ∧ Hid (L.bodies.take i = M.bodies.take i) ∧ Blk wr w.heap.size 36 #[strV L.name, .slice A n c, .slice B p d, .slice C q e] ∧ Blk wr (w.heap.size + 1) 36 #[strV M.name, .slice A' n c', .slice B' p d', .slice C' q e'] ∧ Below w.heap.size w wr) (fun iv _ => n - (intOf iv).toNat)
  case atStart => exact ⟨0, rfl, Nat.zero_le _, Lib.hid rfl, (blkAt w _ _ rfl).alloc _, blkAt _ _ _ (by simp), q00⟩
  case round =>
    clear q00
    obtain ⟨i, rfl, hi, HI, xa, xb, bwa⟩ := hrel
    rename World => wa
    have hla : w.heap.size < wa.heap.size := xa.lt
    have hlb : w.heap.size + 1 < wa.heap.size := xb.lt
    rcases Nat.lt_or_ge i n with hlt | hge
    · have hi1 : ((i : Int) < (n : Int)) = True := by simp; omega
      obtain ⟨g, o, x, e1, hg, _, hxi, hX⟩ := (H.out.bodies.bd bwa).at_ hlt
      subst e1
      obtain ⟨g9, o9, y, e1, hg9, _, hyi, hY⟩ := (H'.out.bodies.bd bwa).at_ hlt
      subst e1
      obtain ⟨A1, n1, c1, d0, d1, hM1, _⟩ := hX
      obtain ⟨A2, n2, c2, f0, f1, hM2, _⟩ := hY
      have hn1 : n1 ≤ 1000 := by rw [← hM1.1]; exact HPS.out x (List.mem_of_getElem? hxi)
      have HM := Lib.hid (And.intro hM1 hM2)
      have HXI := Lib.hid (And.intro hxi hyi)
      obtain ⟨v1, hv1⟩ := bool_of (x = y)
      have HV1 := Lib.hid hv1
      have ca1 := xa.cell 1
      have cb1 := xb.cell 1
      have hi2 : ((i : Int) < (n : Int)) := by omega
      clear hM1 hM2 hxi hyi hv1
      go_wp2_with fail
      go_region_held3 (fun w' => Sees wa.heap.size wa w') (first | with_reducible exact Sees.of (Nat.le_refl _) (by assumption) | with_reducible exact Sees.of (Nat.le_refl _) (brefl _).drew | exact Sees.of (Nat.le_refl _) (below_drewN (brefl _) 1) | exact Sees.of (Nat.le_refl _) (below_drewN (by assumption) _))
        (first
          | (go_at_call 29; (with_reducible refine (b_body_d _ A1 n1 c1 x ?_ A2 n2 c2 y ?_ hn1 v1 HV1.out).mono ?_); (exact HM.out.1.mk_ (by first | exact (brefl wa).drew | exact below_drewN (brefl wa) _)); (exact HM.out.2.mk_ (by first | exact (brefl wa).drew | exact below_drewN (brefl wa) _)); rintro e' w8 ⟨rfl, hb8⟩; have q8 : Below wa.heap.size wa w8 := (by first | exact bnext (brefl wa).drew hb8 | exact bnext (below_drewN (brefl wa) _) hb8)))
      have bw8 := bwa.trans (q8.mono bwa.size)
      have xa8 := xa.below q8 xa.lt
      have xb8 := xb.below q8 xb.lt
      clear ca1 cb1 d0 d1 f0 f1
      cases v1
      · have hvf := HNO.out (x ≠ y) (fun h => absurd (HV1.out.2 h) (by decide)) (fun h => by
          subst h
          have h9 := HXI.out.1.symm.trans HXI.out.2
          injection h9 with h9
          exact fun h => h h9)
        subst hvf
        go_wp2_with fail
        go_ret
        exact ⟨rfl, bw8⟩
      · have hxy : x = y := HV1.out.1 (by simp)
        have HI2 : Hid (L.bodies.take (i + 1) = M.bodies.take (i + 1)) := Lib.hid (take_next HI.out HXI.out.1 (by rw [hxy]; exact HXI.out.2))
        clear hxy
        go_wp2_with fail
        go_roundw
        case rel => exact ⟨i + 1, by go_num, by omega, HI2, xa8, xb8, bw8⟩
        case measure => simp [intOf]; omega
    · have hi1 : ((i : Int) < (n : Int)) = False := by simp; omega
      have e2 : L.bodies = M.bodies := by
        have := HI.out
        rwa [List.take_of_length_le (by rw [HLen.out.1.1]; exact hge), List.take_of_length_le (by rw [HLen.out.1.2]; exact hge)] at this
      have HB := Lib.hid e2
      have ca1 := xa.cell 1
      have ca2 := xa.cell 2
      clear e2
      go_wp2_with fail
      clear ca1 ca2
      go_loopw [6] (fun iv wr => ∃ i2 : Nat, iv = .int .i64 (i2 : Nat) ∧ i2 ≤ p ∧ Hid (L.joints.take i2 = M.joints.take i2) ∧ Blk wr w.heap.size 36 #[strV L.name, .slice A n c, .slice B p d, .slice C q e] ∧ Blk wr (w.heap.size + 1) 36 #[strV M.name, .slice A' n c', .slice B' p d', .slice C' q e'] ∧ Below w.heap.size w wr) (fun iv _ => p - (intOf iv).toNat)
      case atStart => exact ⟨0, rfl, Nat.zero_le _, Lib.hid rfl, xa, xb, bwa⟩
      case round =>
        clear xa xb bwa
        obtain ⟨i2, rfl, hii2, HI, xa, xb, bwa⟩ := hrel
        rename World => wi2
        have hla : w.heap.size < wi2.heap.size := xa.lt
        have hlb : w.heap.size + 1 < wi2.heap.size := xb.lt
        rcases Nat.lt_or_ge i2 p with hlt | hgei2
        · have hi1 : ((i2 : Int) < (p : Int)) = True := by simp; omega
          have hi3 : ((i2 : Int) < (p : Int)) := by omega
          obtain ⟨g, o, x, e1, hg, _, hxi, hX⟩ := (H.out.joints.jt bwa).at_ hlt
          subst e1
          obtain ⟨g9, o9, y, e1, hg9, _, hyi, hY⟩ := (H'.out.joints.jt bwa).at_ hlt
          subst e1
          have HXI := Lib.hid (And.intro hxi hyi)
          obtain ⟨d0, d1, d2, d3, d4, d5, d6, _⟩ := hX
          obtain ⟨f0, f1, f2, f3, f4, f5, f6, _⟩ := hY
          have ca1 := xa.cell 2
          have cb1 := xb.cell 2
          have gt1 := gt_jt
          have gt2 := gh_jt
          clear hxi hyi
          by_cases k0 : x.name = y.name
          rotate_left
          · have h0 : (x.name == y.name) = false := beq_eq_false_iff_ne.2 k0
            have t0 : ((⟨x.name.toArray⟩ : ByteArray).toList == (⟨y.name.toArray⟩ : ByteArray).toList) = false := by rw [ByteArray.toList_eq, ByteArray.toList_eq]; simpa using k0
            have hvf := HNO.out _ k0 (fun h => by
              subst h
              have h9 := HXI.out.1.symm.trans HXI.out.2
              injection h9 with h9
              rw [h9]; simp)
            subst hvf
            clear k0
            go_wp2_with fail
            go_quiet (fail)
            go_wp2_with fail
            go_ret
            exact ⟨rfl, by first | exact bwa | exact below_drewN bwa _⟩
          have h0 : (x.name == y.name) = true := beq_iff_eq.2 k0
          have t0 : ((⟨x.name.toArray⟩ : ByteArray).toList == (⟨y.name.toArray⟩ : ByteArray).toList) = true := by rw [ByteArray.toList_eq, ByteArray.toList_eq]; simpa using k0
          have K0 := Lib.hid k0
          clear k0
          by_cases k1 : x.kind = y.kind
          rotate_left
          · have h1 : (x.kind == y.kind) = false := beq_eq_false_iff_ne.2 k1
            have hvf := HNO.out _ k1 (fun h => by
              subst h
              have h9 := HXI.out.1.symm.trans HXI.out.2
              injection h9 with h9
              rw [h9]; simp)
            subst hvf
            clear k1
            go_wp2_with fail
            go_quiet (fail)
            go_wp2_with fail
            go_ret
            exact ⟨rfl, by first | exact bwa | exact below_drewN bwa _⟩
          have h1 : (x.kind == y.kind) = true := beq_iff_eq.2 k1
          have K1 := Lib.hid k1
          clear k1
          by_cases k2 : x.a = y.a
          rotate_left
          · have h2 : (x.a == y.a) = false := beq_eq_false_iff_ne.2 k2
            have hvf := HNO.out _ k2 (fun h => by
              subst h
              have h9 := HXI.out.1.symm.trans HXI.out.2
              injection h9 with h9
              rw [h9]; simp)
            subst hvf
            clear k2
            go_wp2_with fail
            go_quiet (fail)
            go_wp2_with fail
            go_ret
            exact ⟨rfl, by first | exact bwa | exact below_drewN bwa _⟩
          have h2 : (x.a == y.a) = true := beq_iff_eq.2 k2
          have K2 := Lib.hid k2
          clear k2
          by_cases k3 : x.point = y.point
          rotate_left
          · have h3 : (x.point == y.point) = false := beq_eq_false_iff_ne.2 k3
            have hvf := HNO.out _ k3 (fun h => by
              subst h
              have h9 := HXI.out.1.symm.trans HXI.out.2
              injection h9 with h9
              rw [h9]; simp)
            subst hvf
            clear k3
            go_wp2_with fail
            go_quiet (fail)
            go_wp2_with fail
            go_ret
            exact ⟨rfl, by first | exact bwa | exact below_drewN bwa _⟩
          have h3 : (x.point == y.point) = true := beq_iff_eq.2 k3
          have K3 := Lib.hid k3
          clear k3
          by_cases k4 : x.b = y.b
          rotate_left
          · have h4 : (x.b == y.b) = false := beq_eq_false_iff_ne.2 k4
            have hvf := HNO.out _ k4 (fun h => by
              subst h
              have h9 := HXI.out.1.symm.trans HXI.out.2
              injection h9 with h9
              rw [h9]; simp)
            subst hvf
            clear k4
            go_wp2_with fail
            go_quiet (fail)
            go_wp2_with fail
            go_ret
            exact ⟨rfl, by first | exact bwa | exact below_drewN bwa _⟩
          have h4 : (x.b == y.b) = true := beq_iff_eq.2 k4
          have K4 := Lib.hid k4
          clear k4
          by_cases k5 : x.on = y.on
          rotate_left
          · have h5 : (x.on == y.on) = false := beq_eq_false_iff_ne.2 k5
            have hvf := HNO.out _ k5 (fun h => by
              subst h
              have h9 := HXI.out.1.symm.trans HXI.out.2
              injection h9 with h9
              rw [h9]; simp)
            subst hvf
            clear k5
            go_wp2_with fail
            go_quiet (fail)
            go_wp2_with fail
            go_ret
            exact ⟨rfl, by first | exact bwa | exact below_drewN bwa _⟩
          have h5 : (x.on == y.on) = true := beq_iff_eq.2 k5
          have K5 := Lib.hid k5
          clear k5
          by_cases k6 : x.to_ = y.to_
          rotate_left
          · have h6 : (x.to_ == y.to_) = false := beq_eq_false_iff_ne.2 k6
            have hvf := HNO.out _ k6 (fun h => by
              subst h
              have h9 := HXI.out.1.symm.trans HXI.out.2
              injection h9 with h9
              rw [h9]; simp)
            subst hvf
            clear k6
            go_wp2_with fail
            go_quiet (fail)
            go_wp2_with fail
            go_ret
            exact ⟨rfl, by first | exact bwa | exact below_drewN bwa _⟩
          have h6 : (x.to_ == y.to_) = true := beq_iff_eq.2 k6
          have K6 := Lib.hid k6
          clear k6
          have hxy : x = y := by
            have q0 := K0.out
            have q1 := K1.out
            have q2 := K2.out
            have q3 := K3.out
            have q4 := K4.out
            have q5 := K5.out
            have q6 := K6.out
            obtain ⟨x0, x1, x2, x3, x4, x5, x6⟩ := x
            obtain ⟨y0, y1, y2, y3, y4, y5, y6⟩ := y
            simp only at q0 q1 q2 q3 q4 q5 q6
            rw [q0, q1, q2, q3, q4, q5, q6]
          have HI2 : Hid (L.joints.take (i2 + 1) = M.joints.take (i2 + 1)) := Lib.hid (take_next HI.out HXI.out.1 (by rw [hxy]; exact HXI.out.2))
          clear hxy
          go_wp2_with fail
          go_quiet (fail)
          go_wp2_with fail
          go_roundw
          case rel => first | exact ⟨i2 + 1, by go_num, by omega, HI2, xa, xb, bwa⟩ | exact ⟨i2 + 1, by go_num, by omega, HI2, xa.drewN _, xb.drewN _, below_drewN bwa _⟩
          case measure => simp [intOf]; omega
        · have hi1 : ((i2 : Int) < (p : Int)) = False := by simp; omega
          have e2 : L.joints = M.joints := by
            have := HI.out
            rwa [List.take_of_length_le (by rw [HLen.out.2.1.1]; exact hgei2), List.take_of_length_le (by rw [HLen.out.2.1.2]; exact hgei2)] at this
          have Hjt := Lib.hid e2
          have ca1 := xa.cell 2
          clear e2
          go_wp2_with fail
          clear ca1
          go_loopw [7] (fun iv wr => ∃ i3 : Nat, iv = .int .i64 (i3 : Nat) ∧ i3 ≤ q ∧ Hid (L.drivers.take i3 = M.drivers.take i3) ∧ Blk wr w.heap.size 36 #[strV L.name, .slice A n c, .slice B p d, .slice C q e] ∧ Blk wr (w.heap.size + 1) 36 #[strV M.name, .slice A' n c', .slice B' p d', .slice C' q e'] ∧ Below w.heap.size w wr) (fun iv _ => q - (intOf iv).toNat)
          case atStart => exact ⟨0, rfl, Nat.zero_le _, Lib.hid rfl, xa, xb, bwa⟩
          case round =>
            clear xa xb bwa
            obtain ⟨i3, rfl, hii3, HI, xa, xb, bwa⟩ := hrel
            rename World => wi3
            have hla : w.heap.size < wi3.heap.size := xa.lt
            have hlb : w.heap.size + 1 < wi3.heap.size := xb.lt
            rcases Nat.lt_or_ge i3 q with hlt | hgei3
            · have hi1 : ((i3 : Int) < (q : Int)) = True := by simp; omega
              have hi3 : ((i3 : Int) < (q : Int)) := by omega
              obtain ⟨g, o, x, e1, hg, _, hxi, hX⟩ := (H.out.drivers.dr bwa).at_ hlt
              subst e1
              obtain ⟨g9, o9, y, e1, hg9, _, hyi, hY⟩ := (H'.out.drivers.dr bwa).at_ hlt
              subst e1
              have HXI := Lib.hid (And.intro hxi hyi)
              obtain ⟨d0, d1, _⟩ := hX
              obtain ⟨f0, f1, _⟩ := hY
              have ca1 := xa.cell 3
              have cb1 := xb.cell 3
              have gt1 := gt_dr
              have gt2 := gh_dr
              clear hxi hyi
              by_cases k0 : x.name = y.name
              rotate_left
              · have h0 : (x.name == y.name) = false := beq_eq_false_iff_ne.2 k0
                have t0 : ((⟨x.name.toArray⟩ : ByteArray).toList == (⟨y.name.toArray⟩ : ByteArray).toList) = false := by rw [ByteArray.toList_eq, ByteArray.toList_eq]; simpa using k0
                have hvf := HNO.out _ k0 (fun h => by
                  subst h
                  have h9 := HXI.out.1.symm.trans HXI.out.2
                  injection h9 with h9
                  rw [h9]; simp)
                subst hvf
                clear k0
                go_wp2_with fail
                go_quiet (fail)
                go_wp2_with fail
                go_ret
                exact ⟨rfl, by first | exact bwa | exact below_drewN bwa _⟩
              have h0 : (x.name == y.name) = true := beq_iff_eq.2 k0
              have t0 : ((⟨x.name.toArray⟩ : ByteArray).toList == (⟨y.name.toArray⟩ : ByteArray).toList) = true := by rw [ByteArray.toList_eq, ByteArray.toList_eq]; simpa using k0
              have K0 := Lib.hid k0
              clear k0
              by_cases k1 : x.body = y.body
              rotate_left
              · have h1 : (x.body == y.body) = false := beq_eq_false_iff_ne.2 k1
                have hvf := HNO.out _ k1 (fun h => by
                  subst h
                  have h9 := HXI.out.1.symm.trans HXI.out.2
                  injection h9 with h9
                  rw [h9]; simp)
                subst hvf
                clear k1
                go_wp2_with fail
                go_quiet (fail)
                go_wp2_with fail
                go_ret
                exact ⟨rfl, by first | exact bwa | exact below_drewN bwa _⟩
              have h1 : (x.body == y.body) = true := beq_iff_eq.2 k1
              have K1 := Lib.hid k1
              clear k1
              have hxy : x = y := by
                have q0 := K0.out
                have q1 := K1.out
                obtain ⟨x0, x1⟩ := x
                obtain ⟨y0, y1⟩ := y
                simp only at q0 q1
                rw [q0, q1]
              have HI2 : Hid (L.drivers.take (i3 + 1) = M.drivers.take (i3 + 1)) := Lib.hid (take_next HI.out HXI.out.1 (by rw [hxy]; exact HXI.out.2))
              clear hxy
              go_wp2_with fail
              go_quiet (fail)
              go_wp2_with fail
              go_roundw
              case rel => first | exact ⟨i3 + 1, by go_num, by omega, HI2, xa, xb, bwa⟩ | exact ⟨i3 + 1, by go_num, by omega, HI2, xa.drewN _, xb.drewN _, below_drewN bwa _⟩
              case measure => simp [intOf]; omega
            · have hi1 : ((i3 : Int) < (q : Int)) = False := by simp; omega
              have e2 : L.drivers = M.drivers := by
                have := HI.out
                rwa [List.take_of_length_le (by rw [HLen.out.2.2.1]; exact hgei3), List.take_of_length_le (by rw [HLen.out.2.2.2]; exact hgei3)] at this
              have Hdr := Lib.hid e2
              have ca1 := xa.cell 3
              clear e2
              have hvt : v = true := HV.out.2 (by
                have q0 := HN.out
                have q1 := HB.out
                have q2 := Hjt.out
                have q3 := Hdr.out
                obtain ⟨a1, a2, a3, a4⟩ := L
                obtain ⟨b1, b2, b3, b4⟩ := M
                simp only at q0 q1 q2 q3
                rw [q0, q1, q2, q3])
              subst hvt
              go_wp2_with fail
              go_ret
              exact ⟨rfl, bwa⟩
end Go.Proofs.YtoiijifnfdgfpaaGreatDoor

/- Walks: the Parse laws: the example is awake; ParseChecked. -/
namespace Go.Proofs.YtoiijifnfdgfpaaGreatDoor
open Go Go.RowKit Bn
attribute [local go_sem ↓] Go.wp_at_zero Go.wp_at_succ
def exT20 : List UInt8 := [108, 105, 110, 107, 97, 103, 101, 32, 109, 59, 32, 98, 111, 100, 121, 32, 102, 114, 97, 109, 101, 32, 123, 32, 79, 32, 48, 32, 48, 59, 32, 67, 32, 52, 32, 48, 59, 32, 125, 32, 98, 111, 100, 121, 32, 99, 114, 97, 110, 107, 32, 123, 32, 79].append [32, 48, 32, 48, 59, 32, 65, 32, 49, 32, 49, 47, 50, 59, 32, 125, 32, 112, 105, 110, 32, 106, 32, 99, 114, 97, 110, 107, 46, 79, 32, 102, 114, 97, 109, 101, 46, 79, 59, 32, 100, 114, 105, 118, 101, 114, 32, 100, 32, 99, 114, 97, 110, 107, 59]
theorem ex20_shape : Bn.shape (tokens exT20) = some (lkToks exL) := by decide +kernel
theorem ex20_long : longL exL.bodies ≠ true := by decide +kernel
theorem rdw (q : Rat) : RdW (rd q) := rd_wds q
theorem exL_w : LkW exL := by
  intro b hb m hm
  have h : b = bdF ∨ b = bdC := by simpa [exL] using hb
  have hm2 : m = mkO ∨ m = mkC ∨ m = mkA := by
    rcases h with rfl | rfl
    · have : m = mkO ∨ m = mkC := by simpa [bdF] using hm
      rcases this with h | h
      · exact .inl h
      · exact .inr (.inl h)
    · have : m = mkO ∨ m = mkA := by simpa [bdC] using hm
      rcases this with h | h
      · exact .inl h
      · exact .inr (.inr h)
  rcases hm2 with rfl | rfl | rfl <;> exact ⟨rdw _, rdw _⟩
theorem ex20 : ReadOut exT20 0 exL := by
  have h := ex20_shape
  cases ht : tokens exT20 with
  | err n => rw [ht] at h; cases h
  | ok l =>
    rw [ht] at h
    injection h with h
    obtain ⟨h1, h2⟩ := read_back (l := l) h (lkErr_full ex_err) exL_w ex20_long
    exact .ok l (.ok (by decide) ht rfl) h1 (by rw [h2]; exact ex_err) rfl h2.symm
theorem l20_awake (w : World) (hmx : Mx w) : Calls Tryz.prog 17 #[] w (RetV w (.bool true)) := by
 have HM := Lib.hid hmx
 clear hmx
 go_enter Tryz.func17, Tryz.ntmps17
 go_wp2_with fail
 have he : Calls Tryz.prog 48 #[] w (RetV w (strV exT20)) := by
  go_enter Tryz.func48, Tryz.ntmps48
  go_wp2_with fail
  go_ret
  exact ⟨rfl, brefl w⟩
 (with_reducible refine he.mono ?_); rintro e w1 ⟨rfl, hb1⟩
 clear he
 go_wp2_with fail
 (with_reducible refine (ps_linkage w1 exT20 0 exL (HM.out.belw hb1) ex20).mono ?_); rintro e w2 ⟨A, n, c, B, p, d, C, q, f, rfl, hL, hb2⟩
 rw [errV_0]
 have hb := hb1.trans (hb2.mono hb1.size)
 obtain rfl : 2 = n := hL.bodies.1
 obtain rfl : 1 = p := hL.joints.1
 obtain rfl : 1 = q := hL.drivers.1
 obtain ⟨g1, o1, j, e1, hg1, hc1, hj, hJ⟩ := hL.joints.at_ (i := 0) (by decide)
 obtain ⟨g2, o2, dr, e2, hg2, hc2, hd, hD⟩ := hL.drivers.at_ (i := 0) (by decide)
 subst e1 e2
 injection hj with hj
 injection hd with hd
 subst hj hd
 obtain ⟨d0, d1, d2, d3, d4, d5, d6, _⟩ := hJ
 obtain ⟨f0, f1, _⟩ := hD
 simp only [Nat.zero_mul, Nat.add_zero] at d0 d1 d2 d3 d4 d5 d6 f0 f1
 have d0 : w2.cell? ⟨g1, o1, none⟩ = some (.string ⟨#[106]⟩) := d0
 have f0 : w2.cell? ⟨g2, o2, none⟩ = some (.string ⟨#[100]⟩) := f0
 have hne1 : ¬ g1 = w2.heap.size := by omega
 have hne2 : ¬ g2 = w2.heap.size := by omega
 have gt1 := gt_jt
 have gt2 := gh_jt
 have gt3 := gt_dr
 have gt4 := gh_dr
 clear hL hb1 hb2
 go_wp2_with fail
 go_ret
 exact ⟨rfl, hb.alloc hb.size _⟩
theorem ReadOut.ok0 {s : List UInt8} {L : LinkL} (h : ReadOut s 0 L) : lkErr L = 0 := by
  cases h with
  | split _ _ hx _ => exact absurd rfl hx
  | read _ _ _ hx _ => exact absurd rfl hx
  | check _ _ _ _ hx _ => exact absurd rfl hx
  | ok l hs hr hc hx hL => rw [hL]; exact hc
theorem ReadOut.err {s : List UInt8} {x : Int} {L : LinkL} (h : ReadOut s x L) (hx : x ≠ 0) : L = L0 := by
  cases h with
  | split _ _ _ h => exact h
  | read _ _ _ _ h => exact h
  | check _ _ _ _ _ h => exact h
  | ok l hs hr hc h hL => exact absurd h hx
theorem LkS.mono {k k' : Nat} {w : World} {A B C : Option Addr} {n c p d q e : Nat} {L : LinkL} (h : LkS k w A n c B p d C q e L) (hk : k ≤ k') : LkS k' w A n c B p d C q e L := by
  have hr : ∀ g o r, RatAt w g o r k → RatAt w g o r k' := fun g o r ⟨b, A, n, c, D, m, e, h1, h2, h3, h4⟩ => ⟨b, A, n, c, D, m, e, h1, h2, h3, h4.1, h4.2.1, h4.2.2.1, Nat.le_trans h4.2.2.2.1 hk, Nat.le_trans h4.2.2.2.2 hk⟩
  refine ⟨h.name, h.bodies.mono_ fun g o b _ hp => ?_, h.joints, h.drivers⟩
  obtain ⟨A', n', c', c0, c1, hM, hn⟩ := hp
  exact ⟨A', n', c', c0, c1, hM.mono_ fun g o m _ hm => ⟨hm.1, hr _ _ _ hm.2.1, hr _ _ _ hm.2.2.1, hm.2.2.2⟩, hn⟩
theorem l_ParseChecked (w : World) (s : List UInt8) (_ : s.length < 9223372036854775808) (_ : Tab w) (hmx : Mx w) : Calls Tryz.prog 5 #[strV s] w (RetV w (.bool true)) := by
 by_cases h1 : 3000 < s.length
 ·have f1 : ((3000 : Int) < (s.length : Int)) = True := eq_true (by omega)
  go_enter Tryz.func5, Tryz.ntmps5
  go_wp2_with fail
  (with_reducible refine (l20_awake w hmx).mono ?_); rintro e w1 ⟨rfl, hb1⟩
  have hmx1 := hmx.belw hb1
  go_wp2_with fail
  (with_reducible refine (l20_awake w1 hmx1).mono ?_); rintro e w2 ⟨rfl, hb2⟩
  have bw2 := hb1.trans (hb2.mono hb1.size)
  go_wp2_with fail
  go_ret
  exact retB rfl bw2
 ·have f1 : ((3000 : Int) < (s.length : Int)) = False := eq_false (by omega)
  obtain ⟨x, L, hR⟩ := readOut s
  have HR := Lib.hid hR
  have HM := Lib.hid hmx
  clear hR hmx h1
  go_enter Tryz.func5, Tryz.ntmps5
  go_wp2_with fail
  (with_reducible refine (l20_awake w HM.out).mono ?_); rintro e w1 ⟨rfl, hb1⟩
  go_wp2_with fail
  (with_reducible refine (ps_linkage w1 s x L (HM.out.belw hb1) HR.out).mono ?_); rintro e w2 ⟨A, n, c, B, p, d, C, q, f, rfl, hL, hb2⟩
  have hb := hb1.trans (hb2.mono hb1.size)
  clear hb1 hb2
  by_cases hx : x = 0
  ·subst hx
   rw [errV_0]
   have hc := HR.out.ok0
   have HL := Lib.hid hL
   clear hL
   go_wp2_with fail
   have hq := (brefl w2).alloc (Nat.le_refl _) (.cells #[strV L.name, .slice A n c, .slice B p d, .slice C q f] 36)
   (refine (m_check _ A n c B p d C q f L 130 (HL.out.belw hq) (by decide) (by decide) 0 hc).mono ?_); rintro e w3 ⟨rfl, hb3⟩
   rw [errV_0]
   have hb4 := (hb.trans (hq.mono hb.size)).trans (hb3.mono (Nat.le_trans hb.size hq.size))
   go_wp2_with fail
   go_ret
   exact retB rfl hb4
  ·have e1 := HR.out.err hx
   subst e1
   rw [eVp hx]
   obtain ⟨hn0, _, _⟩ := hL.bodies
   obtain ⟨hp0, _, _⟩ := hL.joints
   obtain ⟨hq0, _, _⟩ := hL.drivers
   have hn0 : n ≤ 1000 := by rw [← hn0]; decide
   have hp0 : p ≤ 1000 := by rw [← hp0]; decide
   have hq0 : q ≤ 1000 := by rw [← hq0]; decide
   have HL := Lib.hid hL
   clear hL hx
   go_wp2_with fail
   have hq := (brefl w2).alloc (Nat.le_refl _) (.cells #[strV L0.name, .slice A n c, .slice B p d, .slice C q f] 36)
   (refine (b_link_d _ A n c B p d C q f L0 ((HL.out.belw hq).mono (by decide)) none 0 0 none 0 0 none 0 0 L0 (lk_zero _ _) (fun b hb => absurd (show b ∈ ([] : List BodyL) from hb) List.not_mem_nil) hn0 hp0 hq0 true (by simp)).mono ?_); rintro e w3 ⟨rfl, hb3⟩
   have hb4 := (hb.trans (hq.mono hb.size)).trans (hb3.mono (Nat.le_trans hb.size hq.size))
   go_wp2_with fail
   go_ret
   exact retB rfl hb4
end Go.Proofs.YtoiijifnfdgfpaaGreatDoor

/- Walks: TokenReturns. -/
namespace Go.Proofs.YtoiijifnfdgfpaaGreatDoor
open Go Go.RowKit Bn
attribute [local go_sem ↓] Go.wp_at_zero Go.wp_at_succ
theorem toks_errN : ∀ (f : Nat) (r : List UInt8) (line col x : Nat), toks f r line col = .err x → 0 < x := by
  intro f
  induction f with
  | zero => intro r line col x h; unfold toks at h; cases h
  | succ f ih =>
    intro r line col x h
    cases r with
    | nil => unfold toks at h; cases h
    | cons c s =>
      unfold toks at h
      split at h
      · exact ih _ _ _ _ h
      · split at h
        · exact ih _ _ _ _ h
        · split at h
          · exact ih _ _ _ _ h
          · split at h
            · rename_i y hf
              injection h with h
              subst h
              exact firstT_errN hf
            · rename_i k n hf
              cases hx : toks f ((c :: s).drop n) line (col + n) with
              | err y =>
                rw [hx] at h
                injection h with h
                subst h
                exact ih _ _ _ _ hx
              | ok l' => rw [hx] at h; cases h
theorem tokens_errN {s : List UInt8} {x : Nat} (h : tokens s = .err x) : 0 < x := toks_errN _ _ _ _ _ h
theorem splitOut_small {s : List UInt8} (h : s.length ≤ 3000) : (∃ k : Nat, 0 < k ∧ SplitOut s (k : Int) []) ∨ ∃ l, tokens s = .ok l ∧ SplitOut s 0 l := by
  obtain ⟨x, l, hx⟩ := splitOut s
  rcases hx with ⟨h1, h2, h3⟩ | ⟨h1, h2, h3⟩ | ⟨n, h1, h2, h3, h4⟩
  · omega
  · exact .inr ⟨l, h2, .ok h1 h2 rfl⟩
  · exact .inl ⟨n, tokens_errN h2, .err n h1 h2 rfl rfl⟩
end Go.Proofs.YtoiijifnfdgfpaaGreatDoor

/- Walks: the Parse laws: ParseBlanks. -/
namespace Go.Proofs.YtoiijifnfdgfpaaGreatDoor
open Go Go.RowKit Bn
attribute [local go_sem ↓] Go.wp_at_zero Go.wp_at_succ
def sepsP : Nat → List UInt8
  | 0 => [32]
  | 1 => [10]
  | 2 => [32, 37, 32, 123, 10]
  | _ => [9]
theorem sepsP_skip (i : Nat) : Skip (sepsP i) ∧ ∃ c t, sepsP i = c :: t ∧ sepB c = true := by
  match i with
  | 0 => exact ⟨Skip.blank (by decide) Skip.nil, _, _, rfl, by decide⟩
  | 1 => exact ⟨Skip.line Skip.nil, _, _, rfl, by decide⟩
  | 2 => exact ⟨Skip.blank (by decide) (Skip.com (u := [32, 123]) (by decide) Skip.nil), _, _, rfl, by decide⟩
  | n + 3 => exact ⟨Skip.blank (by decide) Skip.nil, _, _, rfl, by decide⟩
def blnL (a : Nat) : Nat → List Tkn → List (Nat × List UInt8 × List UInt8)
  | _, [] => []
  | i, t :: r => (t.kind, t.text, sepsP ((a + i) % 4)) :: blnL a (i + 1) r
theorem blnL_map (a : Nat) : ∀ (l : List Tkn) (i : Nat), (blnL a i l).map (fun p => (p.1, p.2.1)) = l.map fun t => (t.kind, t.text)
  | [], _ => rfl
  | t :: r, i => by
    show (t.kind, t.text) :: (blnL a (i + 1) r).map _ = _
    rw [blnL_map a r (i + 1)]; rfl
theorem blnL_mem (a : Nat) : ∀ {l : List Tkn} {i : Nat} {p : Nat × List UInt8 × List UInt8}, p ∈ blnL a i l → (∃ t ∈ l, p.1 = t.kind ∧ p.2.1 = t.text) ∧ ∃ j, p.2.2 = sepsP j
  | [], _, _, h => by cases h
  | t :: r, i, p, h => by
    rcases List.mem_cons.1 h with e | e
    · subst e; exact ⟨⟨t, by simp, rfl, rfl⟩, _, rfl⟩
    · obtain ⟨⟨x, hx, h1⟩, h2⟩ := blnL_mem a e
      exact ⟨⟨x, List.mem_cons_of_mem _ hx, h1⟩, h2⟩
theorem blnL_snoc (a : Nat) : ∀ (l : List Tkn) (t : Tkn) (i : Nat), blnL a i (l ++ [t]) = blnL a i l ++ [(t.kind, t.text, sepsP ((a + (i + l.length)) % 4))]
  | [], t, i => rfl
  | u :: r, t, i => by
    show (u.kind, u.text, sepsP ((a + i) % 4)) :: blnL a (i + 1) (r ++ [t]) = _
    rw [blnL_snoc a r t (i + 1), show i + 1 + r.length = i + (u :: r).length by rw [List.length_cons]; omega]; rfl
theorem sepsP_len (i : Nat) : (sepsP i).length ≤ 7 := by
  match i with
  | 0 => decide
  | 1 => decide
  | 2 => decide
  | n + 3 => show 1 ≤ 7; decide
theorem blnL_len (a : Nat) : ∀ (l : List Tkn) (i : Nat), (glue (blnL a i l)).length ≤ (l.map fun t => t.text.length).sum + 7 * l.length
  | [], _ => by simp [blnL, glue]
  | t :: r, i => by
    have h := blnL_len a r (i + 1)
    have h2 := sepsP_len ((a + i) % 4)
    show (t.text ++ (sepsP ((a + i) % 4) ++ glue (blnL a (i + 1) r))).length ≤ _
    simp only [List.length_append, List.length_cons, List.map_cons, List.sum_cons]
    omega
theorem bln_again {s : List UInt8} {l : List Tkn} (h : tokens s = .ok l) (hl : s.length ≤ 3000) (a : Nat) : ∃ m, SplitOut (glue (blnL a 0 l)) 0 m ∧ kt l = kt m := by
  have hg := toks_good _ _ _ _ _ h
  have hs := glue_tk (L := blnL a 0 l) (fun p hp => by
    obtain ⟨⟨t, ht, e1, e2⟩, j, e3⟩ := blnL_mem a hp
    exact ⟨by rw [e1, e2]; exact hg t ht, by rw [e3]; exact (sepsP_skip j).1⟩) (fun i p hp _ => by
    obtain ⟨_, j, e3⟩ := blnL_mem a (List.mem_of_getElem? hp)
    rw [e3]; exact (sepsP_skip j).2) (fun p hp => by
    obtain ⟨_, j, e3⟩ := blnL_mem a (List.mem_of_getLast? hp)
    right; rw [e3]; exact (sepsP_skip j).2) 1 1
  rw [blnL_map] at hs
  obtain ⟨m, hm, he⟩ := shape_ok hs
  have h1 := blnL_len a l 0
  have h2 := tokens_len h
  exact ⟨m, .ok (by omega) hm rfl, he.symm⟩
theorem blnL_take (a : Nat) {l : List Tkn} {i : Nat} {t : Tkn} (h : l[i]? = some t) : glue (blnL a 0 (l.take (i + 1))) = glue (blnL a 0 (l.take i)) ++ (t.text ++ sepsP ((a + i) % 4)) := by
  have htk : l.take (i + 1) = l.take i ++ [t] := by rw [List.take_add_one, h]; rfl
  have hlt : i < l.length := (List.getElem?_eq_some_iff.1 h).1
  rw [htk, blnL_snoc, glue_app, List.length_take, Nat.min_eq_left (by omega), Nat.zero_add]
  simp [glue]
theorem takeB_sum : ∀ (l : List Tkn) (i : Nat), ((l.take i).map fun t => t.text.length).sum ≤ (l.map fun t => t.text.length).sum
  | [], i => by simp
  | t :: l, 0 => by simp
  | t :: l, i + 1 => by
    have := takeB_sum l i
    simp only [List.take_succ_cons, List.map_cons, List.sum_cons]
    omega
theorem sepsP_4 {n : Nat} (h : n < 4) : ∀ h', ([Value.string ⟨#[32]⟩, Value.string ⟨#[10]⟩, Value.string ⟨#[32, 37, 32, 123, 10]⟩, Value.string ⟨#[9]⟩] : List Value)[n]'h' = strV (sepsP n) := by
  intro h'
  match n, h with
  | 0, _ => rfl
  | 1, _ => rfl
  | 2, _ => rfl
  | 3, _ => rfl
theorem ReadOut.small {s : List UInt8} {x : Int} {L : LinkL} (h : ReadOut s x L) : (∀ b ∈ L.bodies, b.pts.length ≤ 1000) ∧ L.bodies.length ≤ 1000 ∧ L.joints.length ≤ 1000 ∧ L.drivers.length ≤ 1000 := by
  by_cases hx : x = 0
  · subst hx
    have hF := (lkErr_full h.ok0).ok
    exact ⟨fun b hb => by have := (hF.body b hb).2.1; omega, by have := hF.nb; omega, by have := hF.nj; omega, by have := hF.nd; omega⟩
  · have := h.err hx
    subst this
    exact ⟨fun b hb => absurd (show b ∈ ([] : List BodyL) from hb) List.not_mem_nil, by decide, by decide, by decide⟩
theorem belowB_drew {n : Nat} {w w' : World} (h : Below n w w') : Below n w w'.drew := below_drewN h 1
theorem l_ParseBlanks (w : World) (s : List UInt8) (_ : s.length < 9223372036854775808) (x : Int) (hx8 : 0 ≤ x ∧ x ≤ 255) (_ : Tab w) (hmx : Mx w) : Calls Tryz.prog 6 #[strV s, .int .u8 x] w (RetV w (.bool true)) := by
 obtain ⟨a, rfl⟩ : ∃ a : Nat, x = (a : Int) := ⟨x.toNat, by omega⟩
 have ha : a ≤ 255 := by omega
 clear hx8
 by_cases h1 : 3000 < s.length
 ·have f1 : ((3000 : Int) < (s.length : Int)) = True := eq_true (by omega)
  go_enter Tryz.func6, Tryz.ntmps6
  go_wp2_with fail
  (with_reducible refine (l20_awake w hmx).mono ?_); rintro e w1 ⟨rfl, hb1⟩
  have hmx1 := hmx.belw hb1
  go_wp2_with fail
  (with_reducible refine (l20_awake w1 hmx1).mono ?_); rintro e w2 ⟨rfl, hb2⟩
  have bw2 := hb1.trans (hb2.mono hb1.size)
  go_wp2_with fail
  go_ret
  exact retB rfl bw2
 ·have f1 : ((3000 : Int) < (s.length : Int)) = False := eq_false (by omega)
  have HM0 := Lib.hid hmx
  clear hmx
  rcases splitOut_small (s := s) (by omega) with ⟨k, hk, hx⟩ | ⟨l, ht, hx⟩
  ·have HX := Lib.hid hx
   have hk1 : ((k : Int) == 0) = false := beq_eq_false_iff_ne.2 (by omega)
   have hk2 : ((k : Int) = 0) = False := by simp; omega
   have hk3 : ((k : Int) != 0) = true := by unfold bne; rw [hk1]; rfl
   clear hx
   go_enter Tryz.func6, Tryz.ntmps6
   go_wp2_with fail
   (with_reducible refine (l20_awake w HM0.out).mono ?_); rintro e w1 ⟨rfl, hb1⟩
   go_wp2_with fail
   (with_reducible refine (r_split_x w1 s _ _ HX.out).mono ?_); rintro e w2 ⟨A, n, c, rfl, hS, hb2⟩
   have bw2 := hb1.trans (hb2.mono hb1.size)
   clear hS hb2 hb1
   go_wp2_with fail
   go_ret
   exact retB rfl bw2
  ·obtain ⟨m, hm, hmap⟩ := bln_again ht (by omega) a
   obtain ⟨x, L, hR⟩ := readOut s
   have hR2 := out_kt hx hm hmap hR
   have hll : l.length ≤ 3000 ∧ (l.map fun t => t.text.length).sum ≤ 3000 := by
    have h4 := tokens_len ht
    omega
   have HX := Lib.hid hx
   have HR := Lib.hid hR
   have HR2 := Lib.hid hR2
   clear hx hm hmap ht hR hR2
   go_enter Tryz.func6, Tryz.ntmps6
   go_wp2_with fail
   (with_reducible refine (l20_awake w HM0.out).mono ?_); rintro e w1 ⟨rfl, hb1⟩
   go_wp2_with fail
   (with_reducible refine (r_split_x w1 s _ _ HX.out).mono ?_); rintro e w2 ⟨A, n, c, rfl, hS, hb2⟩
   obtain rfl : l.length = n := hS.1
   have bw2 := hb1.trans (hb2.mono hb1.size)
   have HS := Lib.hid hS
   clear hS hb2 hb1
   go_wp2_with fail
   go_loopw [7, 8] (fun ov iv wr => ∃ i : Nat, ov = strV (glue (blnL a 0 (l.take i))) ∧ iv = .int .i64 (i : Nat) ∧ i ≤ l.length ∧ Below w2.heap.size w2 wr) (fun _ iv _ => l.length - (intOf iv).toNat)
   case atStart => exact ⟨0, by simp [blnL, glue], rfl, Nat.zero_le _, brefl w2⟩
   case round =>
    obtain ⟨i, rfl, rfl, hi, hb⟩ := hrel
    obtain ⟨X, hX⟩ : ∃ X, glue (blnL a 0 (l.take i)) = X := ⟨_, rfl⟩
    rcases Nat.lt_or_ge i l.length with hlt | hge
    ·have hi1 : ((i : Int) < (l.length : Int)) = True := by simp; omega
     obtain ⟨g, t, e, hc, ht, c0, c1, c2, c3⟩ := (HS.out.belw hb).cells hlt
     subst e
     have hgl : g < wr.heap.size := World.block_lt_of_cell? wr _ c0
     have hne : ¬ g = wr.heap.size := by omega
     have hR := blnL_take a ht
     have r4 : Int.tmod ((a : Int) + (i : Int)) 4 = (((a + i) % 4 : Nat) : Int) := by rw [← Int.natCast_add]; rfl
     have l4 : (a + i) % 4 < 4 := Nat.mod_lt _ (by decide)
     have H4 := sepsP_4 l4
     have hln : X.length + (t.text.length + (sepsP ((a + i) % 4)).length) ≤ 100000 := by
      rw [← hX]
      have h6 := blnL_len a (l.take i) 0
      have h7 := sepsP_len ((a + i) % 4)
      have h8 := takeB_sum l i
      have h9 := takeB_sum l (i + 1)
      rw [List.take_add_one, ht] at h9
      simp only [Option.toList_some, List.map_append, List.sum_append, List.map_cons, List.map_nil, List.sum_cons, List.sum_nil] at h9
      rw [List.length_take] at h6
      omega
     obtain ⟨B, hB⟩ : ∃ b, (a + i) % 4 = b := ⟨_, rfl⟩
     rw [hB] at r4 l4 H4 hln hR
     obtain ⟨S, hS⟩ : ∃ S, sepsP B = S := ⟨_, rfl⟩
     rw [hS] at H4 hln hR
     have ha1 := app_v t.text S
     have ha2 := app_v X (t.text ++ S)
     have w1' : IntKind.i64.wrap ((a : Int) + (i : Int)) = (a : Int) + (i : Int) := IntWalk.i64_in _ ⟨by omega, by omega⟩
     have k1 : (9223372036854775807 < t.text.length + S.length) = False := by simp; omega
     have k2 : (9223372036854775807 < X.length + (t.text.length + S.length)) = False := by simp; omega
     have HRR := Lib.hid hR
     clear hR hS hB ht hln
     rw [hX]
     have HXX := Lib.hid hX
     clear hX
     go_wp2_with fail
     go_region
     go_wp2_with fail
     go_roundw
     case rel => exact ⟨i + 1, by rw [HRR.out, HXX.out], by go_num, by omega, belowB_drew (hb.alloc hb.size _)⟩
     case measure => simp [intOf]; omega
    ·have hi1 : ((i : Int) < (l.length : Int)) = False := by simp; omega
     have hR : l.take i = l := List.take_of_length_le hge
     have bw3 := bw2.trans (hb.mono bw2.size)
     have HMX := Lib.hid (HM0.out.belw bw3)
     rw [hR] at hX
     have HM2 := HR2
     rw [hX] at HM2
     rw [hR, hX]
     clear hR hX HR2 HM0 hb bw2 HX HS
     go_wp2_with fail
     (with_reducible refine (ps_linkage wr s x L HMX.out HR.out).mono ?_); rintro e w3 ⟨A1, n1, c1, B1, p1, d1, C1, q1, f1, rfl, hL1, hb3⟩
     have bw4 := bw3.trans (hb3.mono bw3.size)
     have HM3 := Lib.hid (HMX.out.belw hb3)
     have HL1 := Lib.hid hL1
     clear hL1 hb3
     obtain ⟨v, hv⟩ : ∃ v, errV x = v := ⟨_, rfl⟩
     rw [hv]
     go_wp2_with fail
     have hq := (brefl w3).alloc (Nat.le_refl _) (.cells #[strV L.name, .slice A1 n1 c1, .slice B1 p1 d1, .slice C1 q1 f1] 36)
     have z1 := Blk.new w3 36 #[strV L.name, .slice A1 n1 c1, .slice B1 p1 d1, .slice C1 q1 f1]
     have bw5 := bw4.trans (hq.mono bw4.size)
     have HL2 := Lib.hid (HL1.out.belw hq)
     have HM4 := Lib.hid (HM3.out.belw hq)
     generalize (w3.alloc (.cells #[strV L.name, .slice A1 n1 c1, .slice B1 p1 d1, .slice C1 q1 f1] 36)) = w4 at bw5 z1 HL2 HM4 ⊢
     clear hq bw4 HL1 HM3
     (with_reducible refine (ps_linkage w4 X x L HM4.out HM2.out).mono ?_); rintro e w5 ⟨A2, n2, c2, B2, p2, d2, C2, q2, f2, rfl, hL2, hb5⟩
     rw [hv]
     have bw6 := bw5.trans (hb5.mono bw5.size)
     have HL3 := Lib.hid (HL2.out.belw hb5)
     have z2 := z1.below hb5 z1.lt
     have HL4 := Lib.hid hL2
     have hlz : w3.heap.size < w5.heap.size := z2.lt
     have hnz : ¬ w3.heap.size = w5.heap.size := by omega
     clear hL2 hb5 HL2 z1 bw5
     obtain ⟨c0, c1', c2', c3⟩ := z2.c4
     go_wp2_with fail
     have hq := (brefl w5).alloc (Nat.le_refl _) (.cells #[strV L.name, .slice A2 n2 c2, .slice B2 p2 d2, .slice C2 q2 f2] 36)
     have z3 := Blk.new w5 36 #[strV L.name, .slice A2 n2 c2, .slice B2 p2 d2, .slice C2 q2 f2]
     have z4 := z2.below hq z2.lt
     have bw7 := bw6.trans (hq.mono bw6.size)
     have HL5 := Lib.hid (HL3.out.belw hq)
     have HL6 := Lib.hid (HL4.out.belw hq)
     clear c0 c1' c2' c3 HL3 HL4 z2
     generalize (w5.alloc (.cells #[strV L.name, .slice A2 n2 c2, .slice B2 p2 d2, .slice C2 q2 f2] 36)) = w6 at bw7 z3 z4 HL5 HL6 ⊢
     clear hq bw6
     have hnum : ∀ w : World, Calls Tryz.prog 16 #[v] w (RetV w (.int .i64 x)) := fun w => by rw [← hv]; exact b_num_v w x
     (with_reducible refine (hnum w6).mono ?_); rintro e w7 ⟨rfl, hb7⟩
     have bw8 := bw7.trans (hb7.mono bw7.size)
     go_wp2_with fail
     (with_reducible refine (hnum w7).mono ?_); rintro e w8 ⟨rfl, hb8⟩
     have bw9 := bw8.trans (hb8.mono bw8.size)
     have hb9 := hb7.trans (hb8.mono hb7.size)
     have z5 := z3.below hb9 z3.lt
     have z6 := z4.below hb9 z4.lt
     have HL7 := Lib.hid (HL5.out.belw hb9)
     have HL8 := Lib.hid (HL6.out.belw hb9)
     obtain ⟨c0, c1', c2', c3⟩ := z5.c4
     obtain ⟨d0, d1', d2', d3⟩ := z6.c4
     have hxx : (x == x) = true := by simp
     obtain ⟨hps, hn, hp, hqq⟩ := HR.out.small
     rw [HL7.out.bodies.1] at hn
     rw [HL7.out.joints.1] at hp
     rw [HL7.out.drivers.1] at hqq
     have HPS := Lib.hid hps
     clear hps hb7 hb8 hb9 z3 z4 HL5 HL6
     go_wp2_with fail
     (with_reducible refine (b_link_d w8 A1 n1 c1 B1 p1 d1 C1 q1 f1 L (HL7.out.mono (by decide)) A2 n2 c2 B2 p2 d2 C2 q2 f2 L (HL8.out.mono (by decide)) HPS.out hn hp hqq true (by simp)).mono ?_); rintro e w9 ⟨rfl, hb10⟩
     have bw10 := bw9.trans (hb10.mono bw9.size)
     go_wp2_with fail
     go_ret
     exact retB rfl bw10
end Go.Proofs.YtoiijifnfdgfpaaGreatDoor

/- The arguments of a row opened: integers, fractions and turns that came in. -/
namespace Go.Proofs.YtoiijifnfdgfpaaGreatDoor
open Go Go.RowKit Bn Go.ChangeShapes Go.WideShapes

theorem args_again {H : Type} {enc : TypeId × Value → H} {W : World} {P : Program} (hl : laidOutB P = true) {W' : World} (hb : Below W.heap.size W W') : ∀ {ts : List TypeId} {vs : List Value} {ds : List (DataW H)} {ps : List MemPlace}, (ts.all fun t => P.readableRec t && decide (t < P.types.size)) = true →
    DataW.TrodAll enc P W 0 (fun _ => true) true ts vs ds ps → DataW.TrodAll enc P W' 0 (fun b => decide (b < W.heap.size)) true ts vs ds ps
  | [], [], [], _, _, h => h
  | _ :: _, _ :: _, _ :: _, _, hr, h => by
    have hlt := h.lt
    obtain ⟨p, q, h1, h2, e⟩ := h
    rw [List.all_cons, Bool.and_eq_true, Bool.and_eq_true, decide_eq_true_eq] at hr
    exact ⟨p, q, Below.trod hl hr.1.1 hr.1.2 h1 hb (fun x hx => hlt x (by rw [e]; exact List.mem_append_left _ hx)), args_again hl hb hr.2 h2, e⟩
  | [], [], _ :: _, _, _, h => h.elim
  | [], _ :: _, _, _, _, h => h.elim
  | _ :: _, [], _, _, _, h => h.elim
  | _ :: _, _ :: _, [], _, _, h => h.elim
theorem law_post {H : Type} {enc : TypeId × Value → H} {W : World} {P : Program} {B : TypeId} {f : Func} {s : ChangeSpec} {W' : World} {args : Array Value} {ds : List (DataW H)} {before : List MemPlace} (hl : laidOutB P = true) (hB : P.underlying B = some .bool)
    (hW : DataW.Whole enc P f.params.toList s.vars false W args.toList ds [] before) (hv : s.vars = []) (hr : f.resultTypes = #[B]) (hp : (f.params.toList.all fun t => P.readableRec t && decide (t < P.types.size)) = true)
    (hres : (s.fn H (ds ++ [])).results = [.lit (.bool true)]) (hargs : (s.fn H (ds ++ [])).args = ds) (hvars : (s.fn H (ds ++ [])).vars = []) (hb : Below W.heap.size W W') :
    s.post enc P f false true false false W args (.bool true) W' := by
  have hW' := hW
  obtain ⟨p, q, hA, hV, rfl, _, _⟩ := hW
  have hV' := hV
  rw [hv] at hV'
  obtain ⟨_, rfl⟩ := trodVars_none hV'
  refine ⟨ds, [], _, [], p, [], hW', ?_, ?_, ?_, hb.frame _, fun h => by cases h⟩
  · rw [hr, hres]
    exact trodAll_mk1 (shut_bool hB _)
  · rw [hargs]
    exact args_again hl hb hp hA
  · rw [hv, hvars]
    rfl
theorem joined_parts {P : Program} {f : FuncId} {fn : Func} {s : ChangeSpec} {c : OpenClaim}
    (h1 : (c.wf (OpenSpec.ofChange s) && laidOutB P && mapsRowed P && fn.params.all (P.readableRec ·) && namedTie P c.named s.vars && (c.stops == []) && (P.stops == []) && (c.knobs == []) && (P.stopKnobs == [])) = true)
    (h2 : (c.inPlace == P.inPlace f) = true) (h3 : (c.unfollowed == P.unfollowed f) = true) (h4 : (c.recurses == P.recurses f) = true) (h5 : (c.named == P.varsNamed f) = true)
    (h6 : ((c.maps == (fn.params.toList ++ s.plain.varTypes P).any (P.mapsRec ·)) && (c.ifaces == (fn.params.toList ++ s.plain.varTypes P).any (P.ifacesRec ·)) && (c.mapsOut == P.mapsAmong fn.resultTypes.toList) &&
      (c.loops == (fn.params.toList ++ s.plain.varTypes P).any (P.loopsFrom ·)) && (c.wideKeys == (fn.params.toList ++ s.plain.varTypes P ++ fn.resultTypes.toList).any (P.wideKeysFrom ·)) &&
      s.vars.all (P.varReadable ·) && fn.resultTypes.all (fun t => P.readableRec t && decide (t < P.types.size)) && (c.ifacesOut == fn.resultTypes.toList.any (P.ifacesRec ·)) && (c.loopsOut == fn.resultTypes.toList.any (P.loopsFrom ·)) && (c.plainKeys == P.plainKeys) && c.shortTexts.isNone && P.stopsHeard && P.mayEnter && (c.lifted == P.liftsFinal) && (P.make == some c.make) && (c.kinds == (if c.domain.isEmpty then [] else fn.params.toList.map fun t => match P.underlying t with | some (.int k) => some k | _ => none)) && (c.pinned == c.pinnedBy) &&
      (c.veiled == (fn.params.toList ++ s.plain.varTypes P ++ fn.resultTypes.toList).any (P.veiledRec ·)) && c.veiledFits P fn.params.toList (fn.params.toList ++ s.plain.varTypes P ++ fn.resultTypes.toList)) = true) : joinedFacts P f fn s c = true := by
  unfold joinedFacts
  simp only [Bool.and_eq_true] at h1 h6 ⊢
  obtain ⟨⟨⟨⟨⟨⟨⟨⟨a0, a1⟩, a2⟩, a3⟩, a4⟩, a5⟩, a6⟩, a7⟩, a8⟩ := h1
  obtain ⟨⟨⟨⟨⟨⟨⟨⟨⟨⟨⟨⟨⟨⟨⟨⟨⟨⟨b0, b1⟩, b2⟩, b3⟩, b4⟩, b5⟩, b6⟩, b7⟩, b8⟩, b9⟩, b10⟩, b11⟩, b12⟩, b13⟩, b14⟩, b15⟩, b16⟩, b17⟩, b18⟩ := h6
  exact ⟨⟨⟨⟨⟨⟨⟨⟨⟨⟨⟨⟨⟨⟨⟨⟨⟨⟨⟨⟨⟨⟨⟨⟨⟨⟨⟨⟨⟨⟨⟨a0, a1⟩, a2⟩, a3⟩, a4⟩, a5⟩, a6⟩, a7⟩, a8⟩, h2⟩, h3⟩, h4⟩, h5⟩, b0⟩, b1⟩, b2⟩, b3⟩, b4⟩, b5⟩, b6⟩, b7⟩, b8⟩, b9⟩, b10⟩, b11⟩, b12⟩, b13⟩, b14⟩, b15⟩, b16⟩, b17⟩, b18⟩
section
variable {H : Type} {enc : TypeId × Value → H} {W : World} {base : Nat}
end
theorem mx_of_shaped {W : World} (h : W.ShapedOpen Tryz.prog) : ∃ m, W.cell? ⟨0, 0, none⟩ = some (.int .i64 m) :=
  Go.Proofs.cell_of_shapedOpen_int (P := Tryz.prog) (g := 0) (t := 3) (zero := #[.int .i64 0]) h (of_decide_eq_true (by kernel_rfl)) (by kernel_rfl) rfl (by kernel_rfl) (by kernel_rfl) Tryz.underlying3
theorem g_pow : Tryz.prog.globalNamed "internal/strconv.uint64pow10" = some 1 := by kernel_rfl
theorem ty_pow : (Tryz.prog.globals[1]?).map (·.type) = some 241 := by kernel_rfl
theorem cells_pow : Tryz.prog.cellsOf 241 = 20 := by kernel_rfl
theorem cells_u64 : Tryz.prog.cellsOf 138 = 1 := by kernel_rfl
theorem pow_data {H : Type} : (Rows.laid_internal_strconv_uint64pow10 : DataW H) = Lib.tabData .u64 Lib.pow10Tab := by kernel_rfl
theorem tab_of_laid {rest : List (String × DataW Unit)} {W : World} (h : laidMet Tryz.prog (("math/bits.deBruijn32tab", Rows.laid_math_bits_deBruijn32tab) :: ("math/bits.deBruijn64tab", Rows.laid_math_bits_deBruijn64tab) :: ("internal/strconv.uint64pow10", Rows.laid_internal_strconv_uint64pow10) :: rest) W) : Tab W := by
  obtain ⟨ps, ⟨_, _, _, _, _, _, _, _, _, _, ⟨_, _, _, _, _, _, _, _, _, _, ⟨g, t, cs, f, p, q, hg, ht, hv, hd, _, _⟩, _⟩, _⟩, _, _⟩ := h
  obtain rfl := Option.some.inj (g_pow.symm.trans hg)
  obtain rfl := Option.some.inj (ty_pow.symm.trans ht)
  rw [pow_data] at hd
  unfold Tab Lib.TabIs
  rw [hv, ← Lib.cells_of_tab Tryz.underlying241 Tryz.underlying138 cells_u64 cells_pow hd]
noncomputable def low : Nat := (World.holding Tryz.prog default ⟨#[], #[], []⟩).heap.size
noncomputable def laidWorld (os : Os) : World :=
  let w0 := World.holding Tryz.prog os ⟨#[.cells #[.string ⟨#[118, 97, 108, 117, 101, 32, 111, 117, 116, 32, 111, 102, 32, 114, 97, 110, 103, 101]⟩] 263, .cells #[.string ⟨#[105, 110, 118, 97, 108, 105, 100, 32, 115, 121, 110, 116, 97, 120]⟩] 263], #[], []⟩
  { w0 with heap := (((((((w0.heap.modify 1 fun
      | .cells _ t frozen => .cells (#[.int .u64 1, .int .u64 10, .int .u64 100, .int .u64 1000, .int .u64 10000, .int .u64 100000, .int .u64 1000000, .int .u64 10000000, .int .u64 100000000, .int .u64 1000000000, .int .u64 10000000000, .int .u64 100000000000, .int .u64 1000000000000, .int .u64 10000000000000, .int .u64 100000000000000, .int .u64 1000000000000000, .int .u64 10000000000000000, .int .u64 100000000000000000, .int .u64 1000000000000000000, .int .u64 10000000000000000000]) t frozen
      | o => o).modify 6 fun
      | .cells _ t frozen => .cells (#[.int .u8 0, .int .u8 1, .int .u8 28, .int .u8 2, .int .u8 29, .int .u8 14, .int .u8 24, .int .u8 3, .int .u8 30, .int .u8 22, .int .u8 20, .int .u8 15, .int .u8 25, .int .u8 17, .int .u8 4, .int .u8 8, .int .u8 31, .int .u8 27, .int .u8 13, .int .u8 23, .int .u8 21, .int .u8 19, .int .u8 16, .int .u8 7, .int .u8 26, .int .u8 12, .int .u8 18, .int .u8 6, .int .u8 11, .int .u8 5, .int .u8 10, .int .u8 9]) t frozen
      | o => o).modify 7 fun
      | .cells _ t frozen => .cells (#[.int .u8 0, .int .u8 1, .int .u8 56, .int .u8 2, .int .u8 57, .int .u8 49, .int .u8 28, .int .u8 3, .int .u8 61, .int .u8 58, .int .u8 42, .int .u8 50, .int .u8 38, .int .u8 29, .int .u8 17, .int .u8 4, .int .u8 62, .int .u8 47, .int .u8 59, .int .u8 36, .int .u8 45, .int .u8 43, .int .u8 51, .int .u8 22, .int .u8 53, .int .u8 39, .int .u8 33, .int .u8 30, .int .u8 24, .int .u8 18, .int .u8 12, .int .u8 5, .int .u8 63, .int .u8 55, .int .u8 48, .int .u8 27, .int .u8 60, .int .u8 41, .int .u8 37, .int .u8 16, .int .u8 46, .int .u8 35, .int .u8 44, .int .u8 21, .int .u8 52, .int .u8 32, .int .u8 23, .int .u8 11, .int .u8 54, .int .u8 26, .int .u8 40, .int .u8 15, .int .u8 34, .int .u8 20, .int .u8 31, .int .u8 10, .int .u8 25, .int .u8 14, .int .u8 19, .int .u8 9, .int .u8 13, .int .u8 8, .int .u8 7, .int .u8 6]) t frozen
      | o => o).modify 5 fun
      | .cells _ t frozen => .cells (#[.int .u8 128, .int .u8 191, .int .u8 160, .int .u8 191, .int .u8 128, .int .u8 159, .int .u8 144, .int .u8 191, .int .u8 128, .int .u8 143, .int .u8 0, .int .u8 0, .int .u8 0, .int .u8 0, .int .u8 0, .int .u8 0, .int .u8 0, .int .u8 0, .int .u8 0, .int .u8 0, .int .u8 0, .int .u8 0, .int .u8 0, .int .u8 0, .int .u8 0, .int .u8 0, .int .u8 0, .int .u8 0, .int .u8 0, .int .u8 0, .int .u8 0, .int .u8 0]) t frozen
      | o => o).modify 4 fun
      | .cells _ t frozen => .cells ((Go.Pinned.utf8FirstZ.map fun z : Nat => Value.int .u8 (z : Int)).toArray) t frozen
      | o => o).modify 3 fun
      | .cells _ t frozen => .cells (#[.iface 261 (.pointer (some ⟨low, 0, none⟩))]) t frozen
      | o => o).modify 2 fun
      | .cells _ t frozen => .cells (#[.iface 261 (.pointer (some ⟨low + 1, 0, none⟩))]) t frozen
      | o => o) }
theorem own_knob : ownKnob Tryz.prog.godebug = none := by kernel_rfl
theorem laid_out : laidOutB Tryz.prog = true := by kernel_rfl
end Go.Proofs.YtoiijifnfdgfpaaGreatDoor
