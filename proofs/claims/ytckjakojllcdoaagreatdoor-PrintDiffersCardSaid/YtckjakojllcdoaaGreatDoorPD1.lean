/- PrintDiffers: linkages have the same text exactly if they are equal; for every input the law returns true. The listed library variables are tied to the program text. -/
import Derived.Below
import Derived.Laws.OwnMore
import Derived.Deep.Draws
import Derived.OneCell
import Derived.Laws.Rows
import Derived.Test.YtckjakojllcdoaaGreatDoorProg
import Derived.WalkKit
import Derived.WalkSpells
import Derived.WalkLawsBesides
import Derived.BigQuiet
import Derived.Deep.QuietTactic
import Derived.Deep.AppendLies
import Derived.Lib.Hide
import Derived.Deep.RegionHeld3
import Derived.Deep.DrawnRows
import Derived.Shelf.Strings.Builder1
import Derived.Shelf.Strings.Builder2
import Derived.Shelf.Strings.OnBuilder
import Derived.Shelf.Small.Bits
import Derived.Shelf.Strings.BuilderF
import Derived.Shelf.Strings.BuilderK
import Derived.Shelf.Strings.Builder2Cap
import Derived.Shelf.Strconv.Itoa0
import Derived.Shelf.Strconv.Itoa1
import Derived.Shelf.LaysM
import Derived.Shelf.Strconv.Itoa2
import Derived.Shelf.Strconv.Itoa3
import Derived.Shelf.Strings.Search1
import Derived.Shelf.Strings.Search2
import Derived.Shelf.Strings.Search3
import Derived.Shelf.Strings.Count
import Derived.Shelf.Strings.Shaped
import Derived.Shelf.Strings.Prefix
import Derived.Shelf.Bits.Mul64
import Derived.Shelf.Strings.Repeat
import Derived.Shelf.Strings.BuilderCap
import Derived.IntWalk
import Derived.Deep.DeepCutAuto
import Derived.Deep.RegionHeld
import Derived.Lib.ItoaNum
import Derived.Lib.ItoaMem
import Derived.Lib.Repeat
import Derived.Lib.Join
import Derived.Lib.Atoi
import Derived.Lib.SlTrimSet
import Derived.Lib.AppendIntMem
import Derived.Shelf.Strings.SlTrimAscii
import Derived.Lib.IndexMore
import Derived.Laws.StructEq
import Derived.Test.YtckjakojllcdoaaGreatDoorCards
import Derived.Test.YtckjakojllcdoaaGreatDoorTie
import Derived.ProofKit
import Derived.OpenShut
import Derived.Deep.DeepHandedRow
import Derived.Lib.LaidTab
import Derived.Shelf.Vars
import Derived.Deep.Slices
import Derived.SizedLaws
import Derived.ChangeMaps5
import Derived.Test.YtckjakojllcdoaaGreatDoorA5
set_option linter.unusedVariables false
set_option maxHeartbeats 8000000
set_option maxRecDepth 100000
namespace Go.Proofs.YtckjakojllcdoaaGreatDoor
open Go Go.RowKit Bn
attribute [local go_sem ↓] Go.wp_at_zero Go.wp_at_succ
theorem b_words (w : World) (A : Option Addr) (n c : Nat) (l : List Nat) (wa : Wd w A n c l) (A' : Option Addr) (n' c' : Nat) (wb : Wd w A' n' c' l) (hn : n ≤ 1000000000) :
  Calls Tryz.prog 86 #[.slice A n c, .slice A' n' c'] w (RetV w (.bool true)) := by
 have hnn : n' = n := by rw [wa.2.1, wb.2.1]
 subst hnn
 have HA := Lib.hid wa
 have HB := Lib.hid wb
 clear wa wb
 go_enter Tryz.func86, Tryz.ntmps86
 go_wp2_with fail
 go_loopw [5] (fun iv wr => ∃ (i q : Nat), i ≤ n' ∧ iv = .int .i64 (i : Nat) ∧ wr = w.drewN q) (fun iv _ => n' - (intOf iv).toNat)
 case atStart => exact ⟨0, 0, Nat.zero_le _, rfl, rfl⟩
 case round =>
  obtain ⟨i, q, hi, rfl, rfl⟩ := hrel
  by_cases hlt : i < n'
  ·obtain ⟨g, o, rfl, hc1⟩ := HA.out.at_ (by omega)
   obtain ⟨g', o', rfl, hc2⟩ := HB.out.at_ (by omega)
   have h1 := hc1 i hlt
   have h2 := hc2 i hlt
   have hi0 : (0 : Int) ≤ (i : Int) := by omega
   have hi1 : (i : Int) < (n' : Int) := by omega
   generalize wd l i = x at h1 h2
   clear hc1 hc2
   go_wp2_with fail
   go_quiet (fail)
   go_wp2
   go_roundw
   case rel => exact ⟨i + 1, _, by omega, by go_num, rfl⟩
   case measure => simp [intOf]; omega
  ·go_wp2
   go_ret
   exact retB rfl (by repeat (first | exact Below.refl _ _ | refine below_drewN ?_ _))
end Go.Proofs.YtckjakojllcdoaaGreatDoor

namespace Bn
open Go.Lib
theorem itoa_inj {x y : Int} (h : itoa x = itoa y) : x = y := by
  rw [← (itoa_ok x).2, h, (itoa_ok y).2]
theorem cut_uniq {c : UInt8} : ∀ {a b x y : List UInt8}, c ∉ a → c ∉ x → a ++ c :: b = x ++ c :: y → a = x ∧ b = y := by
  intro a
  induction a with
  | nil =>
    intro b x y _ hx h
    cases x with
    | nil => simp at h; exact ⟨rfl, h⟩
    | cons z r => simp at h; exact absurd h.1 (fun e => hx (by rw [e]; simp))
  | cons w r ih =>
    intro b x y ha hx h
    cases x with
    | nil => simp at h; exact absurd h.1 (fun e => ha (by rw [e]; simp))
    | cons z s =>
      simp at h ha hx
      obtain ⟨e1, e2⟩ := ih ha.2 hx.2 h.2
      exact ⟨by rw [h.1, e1], e2⟩
end Bn

namespace Go.Proofs.YtckjakojllcdoaaGreatDoor
open Go Go.RowKit Bn
theorem rat_inj {q r : Rat} (h : ratText q = ratText r) : q = r := by
  have no : ∀ z, 47 ∉ Lib.itoa z := fun z hc => by rcases itoa_mem hc with h | h <;> revert h <;> decide
  unfold ratText at h
  split at h
  · rename_i h1
    split at h
    · rename_i h2
      exact Rat.ext (itoa_inj h) (h1.trans h2.symm)
    · exact absurd (h ▸ List.mem_append_right _ (List.mem_cons_self) : (47 : UInt8) ∈ Lib.itoa q.num) (no _)
  · split at h
    · exact absurd (h.symm ▸ List.mem_append_right _ (List.mem_cons_self) : (47 : UInt8) ∈ Lib.itoa r.num) (no _)
    · obtain ⟨h3, h4⟩ := cut_uniq (no _) (no _) h
      exact Rat.ext (itoa_inj h3) (by have := itoa_inj h4; omega)
theorem lines_inj : ∀ {l m : List (List UInt8)}, (∀ x ∈ l, 10 ∉ x) → (∀ x ∈ m, 10 ∉ x) → l.flatMap endl = m.flatMap endl → l = m
  | [], [], _, _, _ => rfl
  | [], y :: m, _, _, h => by
    rw [List.flatMap_nil, List.flatMap_cons] at h
    unfold endl at h
    have := congrArg List.length h
    simp at this
  | x :: l, [], _, _, h => by
    rw [List.flatMap_nil, List.flatMap_cons] at h
    unfold endl at h
    have := congrArg List.length h
    simp at this
  | x :: l, y :: m, h1, h2, h => by
    rw [List.flatMap_cons, List.flatMap_cons] at h
    unfold endl at h
    rw [List.append_assoc, List.append_assoc] at h
    obtain ⟨e1, e2⟩ := cut_uniq (h1 x (by simp)) (h2 y (by simp)) (show x ++ 10 :: _ = y ++ 10 :: _ from h)
    subst e1
    rw [lines_inj (l := l) (m := m) (fun z hz => h1 z (by simp [hz])) (fun z hz => h2 z (by simp [hz])) e2]
theorem map_inj_on {α β : Type} {f g : α → β} : ∀ {l m : List α}, (∀ a ∈ l, ∀ b ∈ m, f a = g b → a = b) → l.map f = m.map g → l = m
  | [], [], _, _ => rfl
  | [], _ :: _, _, h => by simp at h
  | _ :: _, [], _, h => by simp at h
  | a :: l, b :: m, hi, h => by
    simp only [List.map_cons, List.cons.injEq] at h
    rw [hi a (by simp) b (by simp) h.1, map_inj_on (l := l) (m := m) (fun x hx y hy => hi x (by simp [hx]) y (by simp [hy])) h.2]
theorem rd_same {r s : RD} (h1 : RdW r) (h2 : RdW s) (k1 : r.ok = true) (k2 : s.ok = true) (h : r.q = s.q) : r = s := by
  rw [← rd_of_ok h1.1 h1.2 k1, ← rd_of_ok h2.1 h2.2 k2, h]
theorem marks_inj : ∀ {l m : List MarkL} {x y : List UInt8}, (∀ a ∈ l, MkF a) → (∀ a ∈ m, MkF a) → (∀ a ∈ l, MkW a) → (∀ a ∈ m, MkW a) → l.flatMap markText ++ 32 :: 125 :: x = m.flatMap markText ++ 32 :: 125 :: y → l = m
  | [], [], _, _, _, _, _, _, _ => rfl
  | [], b :: m, _, _, _, h2, _, _, h => by
    exfalso
    rw [List.flatMap_nil, List.flatMap_cons] at h
    unfold markText at h
    simp only [List.nil_append, List.cons_append, List.cons.injEq, true_and] at h
    have hb := name_all (h2 b (by simp)).name
    obtain ⟨c, t, e⟩ := List.exists_cons_of_ne_nil hb.1
    rw [e] at h
    simp only [List.cons_append, List.cons.injEq] at h
    exact (part_ne (hb.2 c (by rw [e]; simp))).2.2.2.2 h.1.symm
  | b :: l, [], _, _, h1, _, _, _, h => by
    exfalso
    rw [List.flatMap_nil, List.flatMap_cons] at h
    unfold markText at h
    simp only [List.nil_append, List.cons_append, List.cons.injEq, true_and] at h
    have hb := name_all (h1 b (by simp)).name
    obtain ⟨c, t, e⟩ := List.exists_cons_of_ne_nil hb.1
    rw [e] at h
    simp only [List.cons_append, List.cons.injEq] at h
    exact (part_ne (hb.2 c (by rw [e]; simp))).2.2.2.2 h.1
  | a :: l, b :: m, x, y, h1, h2, w1, w2, h => by
    rw [List.flatMap_cons, List.flatMap_cons] at h
    unfold markText at h
    simp only [List.cons_append, List.append_assoc, List.nil_append, List.cons.injEq, true_and] at h
    have fa := h1 a (by simp)
    have fb := h2 b (by simp)
    obtain ⟨e1, h⟩ := cut_uniq (name_no fa.name).2.1 (name_no fb.name).2.1 h
    obtain ⟨e2, h⟩ := cut_uniq (rat_no _).2.1 (rat_no _).2.1 h
    obtain ⟨e3, h⟩ := cut_uniq (rat_no _).2.2.1 (rat_no _).2.2.1 h
    have hr := marks_inj (l := l) (m := m) (fun z hz => h1 z (by simp [hz])) (fun z hz => h2 z (by simp [hz])) (fun z hz => w1 z (by simp [hz])) (fun z hz => w2 z (by simp [hz])) h
    have wa := w1 a (by simp)
    have wb := w2 b (by simp)
    have e4 := rd_same wa.1 wb.1 fa.x fb.x (rat_inj e2)
    have e5 := rd_same wa.2 wb.2 fa.y fb.y (rat_inj e3)
    obtain ⟨an, ax, ay⟩ := a
    obtain ⟨bn, bx, by_⟩ := b
    simp only at e1 e4 e5
    rw [hr, e1, e4, e5]
theorem body_inj {a b : BodyL} (h1 : BdF a) (h2 : BdF b) (w1 : ∀ m ∈ a.pts, MkW m) (w2 : ∀ m ∈ b.pts, MkW m) (h : bodyLine a = bodyLine b) : a = b := by
  unfold bodyLine bodyText at h
  simp only [List.cons_append, List.append_assoc, List.nil_append, List.cons.injEq, true_and] at h
  obtain ⟨e1, h⟩ := cut_uniq (name_no h1.name).2.1 (name_no h2.name).2.1 h
  simp only [List.cons.injEq, true_and] at h
  have e2 := marks_inj h1.pts h2.pts w1 w2 h
  obtain ⟨an, ap⟩ := a
  obtain ⟨bn, bp⟩ := b
  simp only at e1 e2
  rw [e1, e2]
theorem full_inj {bs : List BodyL} (hb : ∀ b ∈ bs, BdF b) (hd : ∀ {i j : Nat} {a b : BodyL}, bs[i]? = some a → bs[j]? = some b → a.name = b.name → i = j)
    {i j i' j' : Nat} {x x' : BodyL} {m m' : MarkL} (h1 : bs[i]? = some x) (h2 : bs[i']? = some x') (h3 : x.pts[j]? = some m) (h4 : x'.pts[j']? = some m') (h : fullT bs (i : Nat) (j : Nat) = fullT bs (i' : Nat) (j' : Nat)) : i = i' ∧ j = j' := by
  rw [fullT_v h1 h3, fullT_v h2 h4] at h
  have b1 := hb x (List.mem_of_getElem? h1)
  have b2 := hb x' (List.mem_of_getElem? h2)
  obtain ⟨e1, e2⟩ := cut_uniq (name_no b1.name).2.2.1 (name_no b2.name).2.2.1 h
  have e3 := hd h1 h2 e1
  subst e3
  rw [h1] at h2
  injection h2 with h2
  subst h2
  exact ⟨rfl, b1.dist h3 h4 e2⟩
theorem joint_inj {bs : List BodyL} (hb : ∀ b ∈ bs, BdF b) (hd : ∀ {i j : Nat} {a b : BodyL}, bs[i]? = some a → bs[j]? = some b → a.name = b.name → i = j)
    {j k : JointL} (n1 : nameOk j.name = true) (n2 : nameOk k.name = true) (h1 : JointOk bs j) (h2 : JointOk bs k) (h : jointLine bs j = jointLine bs k) : j = k := by
  obtain ⟨_, a, b, p, o, x, y, m1, m2, ea, eb, ep, eo, hx, hy, hm1, hm2, hk⟩ := h1
  obtain ⟨_, a', b', p', o', x', y', m1', m2', ea', eb', ep', eo', hx', hy', hm1', hm2', hk'⟩ := h2
  have no := fun a b => (full_no hb a b).2
  have hn1 := (name_no n1).2.1
  have hn2 := (name_no n2).2.1
  unfold jointLine jointWords at h
  rcases hk with ⟨k0, t0⟩ | ⟨k1, t, m3, et, hm3⟩
  · rcases hk' with ⟨k0', t0'⟩ | ⟨k1', t', m3', et', hm3'⟩
    · rw [if_neg (by omega), if_neg (by omega)] at h
      simp only [joinT, List.cons_append, List.append_assoc, List.nil_append, List.cons.injEq, true_and] at h
      obtain ⟨e1, h⟩ := cut_uniq hn1 hn2 h
      obtain ⟨e2, h⟩ := cut_uniq (no _ _) (no _ _) h
      have e3 := List.append_cancel_right h
      rw [ea, ep, ea', ep'] at e2
      rw [eb, eo, eb', eo'] at e3
      obtain ⟨r1, r2⟩ := full_inj hb hd hx hx' hm1 hm1' e2
      obtain ⟨r3, r4⟩ := full_inj hb hd hy hy' hm2 hm2' e3
      obtain ⟨jn, jk, ja, jp, jb, jo, jt⟩ := j
      obtain ⟨kn, kk, ka, kp, kb, ko, kt⟩ := k
      simp only at *
      subst e1 ea eb ep eo ea' eb' ep' eo' k0 k0' t0 t0' r1 r2 r3 r4
      rfl
    · exfalso
      rw [if_neg (by omega), if_pos k1'] at h
      simp [joinT] at h
  · rcases hk' with ⟨k0', t0'⟩ | ⟨k1', t', m3', et', hm3'⟩
    · exfalso
      rw [if_pos k1, if_neg (by omega)] at h
      simp [joinT] at h
    · rw [if_pos k1, if_pos k1'] at h
      simp only [joinT, List.cons_append, List.append_assoc, List.nil_append, List.cons.injEq, true_and] at h
      obtain ⟨e1, h⟩ := cut_uniq hn1 hn2 h
      obtain ⟨e2, h⟩ := cut_uniq (no _ _) (no _ _) h
      obtain ⟨e3, h⟩ := cut_uniq (no _ _) (no _ _) h
      have e4 := List.append_cancel_right h
      rw [ea, ep, ea', ep'] at e2
      rw [eb, eo, eb', eo'] at e3
      rw [eb, et, eb', et'] at e4
      obtain ⟨r1, r2⟩ := full_inj hb hd hx hx' hm1 hm1' e2
      obtain ⟨r3, r4⟩ := full_inj hb hd hy hy' hm2 hm2' e3
      obtain ⟨_, r5⟩ := full_inj hb hd hy hy' hm3 hm3' e4
      obtain ⟨jn, jk, ja, jp, jb, jo, jt⟩ := j
      obtain ⟨kn, kk, ka, kp, kb, ko, kt⟩ := k
      simp only at *
      subst e1 ea eb ep eo ea' eb' ep' eo' k1 k1' et et' r1 r2 r3 r4 r5
      rfl
theorem driver_inj {bs : List BodyL} (hb : ∀ b ∈ bs, BdF b) (hd : ∀ {i j : Nat} {a b : BodyL}, bs[i]? = some a → bs[j]? = some b → a.name = b.name → i = j)
    {d e : DriverL} (n1 : nameOk d.name = true) (n2 : nameOk e.name = true) (h1 : DriverOk bs d) (h2 : DriverOk bs e) (h : driverLine bs d = driverLine bs e) : d = e := by
  obtain ⟨_, i, x, ei, hx⟩ := h1
  obtain ⟨_, i', x', ei', hx'⟩ := h2
  unfold driverLine at h
  rw [ei, nameT_v hx, ei', nameT_v hx'] at h
  simp only [List.cons_append, List.append_assoc, List.nil_append, List.cons.injEq, true_and] at h
  obtain ⟨e1, h⟩ := cut_uniq (name_no n1).2.1 (name_no n2).2.1 h
  have e2 := List.append_cancel_right h
  have r := hd hx hx' e2
  obtain ⟨dn, db⟩ := d
  obtain ⟨en, eb⟩ := e
  simp only at *
  subst e1 ei ei' r
  rfl
def lineTag (l : List UInt8) : Nat := match l.head? with | some 98 => 0 | some 112 => 1 | some 115 => 1 | some 100 => 2 | _ => 3
theorem tag_filter {α : Type} {f : α → List UInt8} {t : Nat} (h : ∀ a, lineTag (f a) = t) (u : Nat) : ∀ l : List α, (l.map f).filter (fun x => lineTag x == u) = if t = u then l.map f else []
  | [] => by simp
  | a :: l => by
    rw [List.map_cons, List.filter_cons, h a, tag_filter h u l]
    by_cases e : t = u
    · subst e; simp
    · have e2 : (t == u) = false := by simpa using e
      rw [e2, if_neg e]
      simp [e]
theorem tag_body (b : BodyL) : lineTag (bodyLine b) = 0 := rfl
theorem tag_joint (bs : List BodyL) (j : JointL) : lineTag (jointLine bs j) = 1 := by
  unfold jointLine jointWords
  split <;> rfl
theorem tag_driver (bs : List BodyL) (d : DriverL) : lineTag (driverLine bs d) = 2 := rfl
theorem lines_parts {L M : LinkL} (h : lkLines L = lkLines M) : headLine L.name = headLine M.name ∧ L.bodies.map bodyLine = M.bodies.map bodyLine ∧ L.joints.map (jointLine L.bodies) = M.joints.map (jointLine M.bodies) ∧ L.drivers.map (driverLine L.bodies) = M.drivers.map (driverLine M.bodies) := by
  unfold lkLines at h
  injection h with h1 h2
  refine ⟨h1, ?_, ?_, ?_⟩
  · have := congrArg (List.filter fun x => lineTag x == 0) h2
    simpa [List.filter_append, tag_filter tag_body, tag_filter (tag_joint _), tag_filter (tag_driver _)] using this
  · have := congrArg (List.filter fun x => lineTag x == 1) h2
    simpa [List.filter_append, tag_filter tag_body, tag_filter (tag_joint _), tag_filter (tag_driver _)] using this
  · have := congrArg (List.filter fun x => lineTag x == 2) h2
    simpa [List.filter_append, tag_filter tag_body, tag_filter (tag_joint _), tag_filter (tag_driver _)] using this
theorem text_inj {L M : LinkL} (h1 : LkF L) (h2 : LkF M) (w1 : LkW L) (w2 : LkW M) (h : lkText L = lkText M) : L = M := by
  rw [lkText_lines, lkText_lines] at h
  obtain ⟨p1, p2, p3, p4⟩ := lines_parts (lines_inj (lines_no h1) (lines_no h2) h)
  have e1 : L.name = M.name := by
    unfold headLine at p1
    simp only [List.cons_append, List.nil_append, List.cons.injEq, true_and] at p1
    exact List.append_cancel_right p1
  have e2 : L.bodies = M.bodies := map_inj_on (fun a ha b hb e => body_inj (h1.body a ha) (h2.body b hb) (w1 a ha) (w2 b hb) e) p2
  have hok1 := h1.ok
  have hok2 := h2.ok
  have hd := fun {i j : Nat} {a b : BodyL} => h1.dist (i := i) (j := j) (a := a) (b := b)
  rw [← e2] at p3 p4
  have e3 : L.joints = M.joints := map_inj_on (fun a ha b hb e => joint_inj h1.body hd (h1.joint a ha) (h2.joint b hb) (hok1.joint a ha) (by rw [e2]; exact hok2.joint b hb) e) p3
  have e4 : L.drivers = M.drivers := map_inj_on (fun a ha b hb e => driver_inj h1.body hd (h1.driver a ha) (h2.driver b hb) (hok1.driver a ha) (by rw [e2]; exact hok2.driver b hb) e) p4
  obtain ⟨a1, a2, a3, a4⟩ := L
  obtain ⟨b1, b2, b3, b4⟩ := M
  simp only at e1 e2 e3 e4
  rw [e1, e2, e3, e4]
end Go.Proofs.YtckjakojllcdoaaGreatDoor

/- A region that draws its order, makes variables of any type and stores to them: what lies below B stays. -/
namespace Go.Proofs.YtckjakojllcdoaaGreatDoor
open Go Go.RowKit Bn
structure FltB where
  a : Nat
  s : Nat
  T : TypeId
  Z : Array Value
  PS : Array Value → World → Prop
structure OwnB where
  g : Nat
  s : Nat
  o : Nat
  T : TypeId
  Z : Array Value
  PS : Array Value → World → Prop
def LinB (ops : Array Oper) (fr : (Nat → Value) → Act) (R : Nat → Value → World → Prop) (es : List FltB) (ow : List OwnB) (B : Nat) (W : World) (L : Array Bool) (a : Act) (w : World) : Prop :=
  ∃ x, a = fr x ∧ (Below B W w ∧ Below B W w) ∧ (∀ i, L.getD i false = true → R i (x i) w) ∧
  (∀ i o, ops[i]? = some o → L.getD i false = true → ∀ e ∈ o.after, Region.binds .any e = true → L.getD e.on false = true) ∧
  (∀ f ∈ es, L.getD f.a false = true → ∃ g c, x f.a = .pointer (some ⟨g, 0, none⟩) ∧ W.heap.size ≤ g ∧ Blk w g f.T c ∧ (L.getD f.s false = false → c = f.Z) ∧ (L.getD f.s false = true → f.PS c w)) ∧
  (∀ f ∈ es, ∀ f' ∈ es, f.a ≠ f'.a → L.getD f.a false = true → L.getD f'.a false = true → x f.a ≠ x f'.a) ∧
  (∀ f ∈ ow, ∃ c, Blk w f.g f.T c ∧ (L.getD f.s false = false → c = f.Z) ∧ (L.getD f.s false = true → f.PS c w))

section
variable (P : Program) (ops : Array Oper) (Q : Exit → Act → World → Prop) (fr : (Nat → Value) → Act) (R : Nat → Value → World → Prop) (es : List FltB) (ow : List OwnB) (B : Nat) (W : World)
def ValStepB (i : Nat) (o : Oper) : Prop := (∀ f ∈ es, i ≠ f.a ∧ i ≠ f.s) ∧ (∀ f ∈ ow, i ≠ f.s) ∧
  ∀ x w, Below B W w → (∀ f ∈ ow, (∀ o', ops[f.s]? = some o' → ∃ e ∈ o'.after, Region.binds .any e = true ∧ e.on = i) → Blk w f.g f.T f.Z) → (∀ e ∈ o.after, Region.binds .any e = true → R e.on (x e.on) w) → ∀ K' : Act → World → Prop, Shut (∀ v w', R i v w' → Below w.heap.size w w' → K' ((fr x).put o.dst v) w') →
    if Region.wanted o (yielded ops (fr x).tmps) = true then Oper.wp P o (fr x) w K' Q else K' ((fr x).put o.dst undef) w
def AllocStepB (i : Nat) (o : Oper) : Prop := ∃ f ∈ es, i = f.a ∧ (∀ f' ∈ es, i ≠ f'.s) ∧ (∀ f' ∈ ow, i ≠ f'.s) ∧ (∀ f' ∈ es, f'.a = i → f' = f) ∧ (∀ v w, R i v w) ∧
  ∀ x w, ∀ K' : Act → World → Prop, Shut (K' ((fr x).put o.dst (.pointer (some ⟨w.heap.size, 0, none⟩))) (w.alloc (.cells f.Z f.T))) →
    if Region.wanted o (yielded ops (fr x).tmps) = true then Oper.wp P o (fr x) w K' Q else K' ((fr x).put o.dst undef) w
def StoreStepB (i : Nat) (o : Oper) : Prop := ∃ f ∈ es, i = f.s ∧ (∀ f' ∈ es, i ≠ f'.a) ∧ (∀ f' ∈ ow, i ≠ f'.s) ∧ (∀ f' ∈ es, f'.s = i → f' = f) ∧ (∀ f' ∈ es, f'.a = f.a → f' = f) ∧ True ∧ (∀ v w, R i v w) ∧ (∃ e ∈ o.after, Region.binds .any e = true ∧ e.on = f.a) ∧
  ∀ x w g, x f.a = .pointer (some ⟨g, 0, none⟩) → Blk w g f.T f.Z → (∀ e ∈ o.after, Region.binds .any e = true → R e.on (x e.on) w) →
    ∃ us, (∀ w', Below B w w' → f.PS (setL f.Z 0 us) w') ∧ ∀ K' : Act → World → Prop, Shut (∀ v, K' ((fr x).put o.dst v) (setFrom w g 0 us)) →
      if Region.wanted o (yielded ops (fr x).tmps) = true then Oper.wp P o (fr x) w K' Q else K' ((fr x).put o.dst undef) w
def OwnStepB (i : Nat) (o : Oper) : Prop := ∃ f ∈ ow, i = f.s ∧ (∀ f' ∈ es, i ≠ f'.a ∧ i ≠ f'.s) ∧ (∀ f' ∈ ow, f'.s = i → f' = f) ∧ True ∧ (∀ v w, R i v w) ∧
  ∀ x w, Blk w f.g f.T f.Z → (∀ e ∈ o.after, Region.binds .any e = true → R e.on (x e.on) w) →
    ∃ us, (∀ w', Below B w w' → f.PS (setL f.Z f.o us) w') ∧ ∀ K' : Act → World → Prop, Shut (∀ v, K' ((fr x).put o.dst v) (setFrom w f.g f.o us)) →
      if Region.wanted o (yielded ops (fr x).tmps) = true then Oper.wp P o (fr x) w K' Q else K' ((fr x).put o.dst undef) w
end
section
variable {P : Program} {ops : Array Oper} {Q : Exit → Act → World → Prop} {fr : (Nat → Value) → Act} {R : Nat → Value → World → Prop} {es : List FltB} {ow : List OwnB} {B : Nat}
theorem wp_region_own {id : Nat} {w : World} {x0 : Nat → Value} (hm : P.follows .mixedOrders = true)
    (hput : ∀ i o, ops[i]? = some o → ∀ x v, (fr x).put o.dst v = fr (upd x i v))
    (hac : ∀ i o, ops[i]? = some o → ∀ e ∈ o.after, Region.binds .any e = true → e.on < i)
    (hR : ∀ i v w w', R i v w → Below B w w' → R i v w')
    (hPS : ∀ f ∈ es, ∀ c w w', f.PS c w → Below B w w' → f.PS c w')
    (hPO : ∀ f ∈ ow, ∀ c w w', f.PS c w → Below B w w' → f.PS c w')
    (hfs : ∀ f ∈ es, f.a < ops.size ∧ f.s < ops.size)
    (hB : B ≤ w.heap.size)
    (hO : ∀ f ∈ ow, Blk w f.g f.T f.Z ∧ B ≤ f.g)
    (hOd : ∀ f ∈ ow, ∀ f' ∈ ow, f.g = f'.g → f = f')
    (hstep : ∀ i o, ops[i]? = some o → ValStepB P ops Q fr R es ow B w i o ∨ AllocStepB P ops Q fr R es ow i o ∨ StoreStepB P ops Q fr R es ow B i o ∨ OwnStepB P ops Q fr R es ow B i o)
    (hend : ∀ x w', Below B w w' → Below B w w' → w.heap.size ≤ w'.heap.size → (∀ f ∈ ow, ∃ c, Blk w' f.g f.T c ∧ (ops.size ≤ f.s → c = f.Z) ∧ (f.s < ops.size → f.PS c w')) → (∀ i, i < ops.size → R i (x i) w') → (∀ f ∈ es, ∃ g c, x f.a = .pointer (some ⟨g, 0, none⟩) ∧ w.heap.size ≤ g ∧ Blk w' g f.T c ∧ f.PS c w') → (∀ f ∈ es, ∀ f' ∈ es, f.a ≠ f'.a → x f.a ≠ x f'.a) → Q .normal (fr x) w') :
    (Code.region id ops true).wp P Q (fr x0) w := by
  refine wp_region_any hm (wpAny_inv (fun L a w' => w.heap.size ≤ w'.heap.size ∧ LinB ops fr R es ow B w L a w') ?_ ?_ _ _ _ _ (by simp) ?_ ?_)
  · rintro L a w1 i hs hi ⟨hsz, x, rfl, ⟨hkW, hb⟩, hr, hcl, hf, hd, how⟩
    obtain ⟨hun, o, ho, hall⟩ := mem_ready.1 hi
    have hlt : i < L.size := by
      rcases Nat.lt_or_ge i L.size with h | h
      · exact h
      · rw [Array.getD_eq_getD_getElem?, Array.getElem?_eq_none h] at hun; cases hun
    have hunf : L.getD i false = false := by
      rw [Array.getD_eq_getD_getElem?, Array.getElem?_eq_getElem hlt] at hun ⊢; exact hun
    have hdep : ∀ e ∈ o.after, Region.binds .any e = true → R e.on (x e.on) w1 := fun e he hbd => hr _ (hall e he hbd)
    have hcl' : ∀ i' o', ops[i']? = some o' → (L.setIfInBounds i true).getD i' false = true → ∀ e ∈ o'.after, Region.binds .any e = true → (L.setIfInBounds i true).getD e.on false = true := by
      intro i' o' ho' hl e he hbd
      rw [getD_set hlt] at hl ⊢
      by_cases h : i' = i
      · subst h; rw [ho] at ho'; injection ho' with ho'; subst ho'
        rw [hall e he hbd]; simp
      · have : L.getD i' false = true := by simpa [h] using hl
        rw [hcl i' o' ho' this e he hbd]; simp
    refine wpOp_step ho fun K' hK => ?_
    have hsno : ∀ f ∈ ow, (∀ o', ops[f.s]? = some o' → ∃ e ∈ o'.after, Region.binds .any e = true ∧ e.on = i) → Blk w1 f.g f.T f.Z := by
      intro f hfo hdd
      obtain ⟨c, c1, c2, _⟩ := how f hfo
      have : L.getD f.s false = false := by
        cases h : L.getD f.s false
        · rfl
        · exfalso
          have hlt2 : f.s < ops.size := by
            rcases Nat.lt_or_ge f.s L.size with h2 | h2
            · omega
            · rw [Array.getD_eq_getD_getElem?, Array.getElem?_eq_none h2] at h; cases h
          obtain ⟨e, he, hbd, hea⟩ := hdd _ (Array.getElem?_eq_getElem hlt2)
          have := hcl f.s _ (Array.getElem?_eq_getElem hlt2) h e he hbd
          rw [hea, hunf] at this; cases this
      rw [← c2 this]; exact c1
    have howk : ∀ w', Below B w1 w' → (∀ g t c, Blk w1 g t c → (∃ f ∈ ow, f.g = g) → Blk w' g t c) → (∀ f ∈ ow, i ≠ f.s) → ∀ f ∈ ow, ∃ c, Blk w' f.g f.T c ∧ ((L.setIfInBounds i true).getD f.s false = false → c = f.Z) ∧ ((L.setIfInBounds i true).getD f.s false = true → f.PS c w') := by
      intro w' hkp hbl hne f hfo
      obtain ⟨c, c1, c2, c3⟩ := how f hfo
      have n2 := hne f hfo
      refine ⟨c, hbl _ _ _ c1 ⟨f, hfo, rfl⟩, fun h => c2 ?_, fun h => hPO f hfo _ _ _ (c3 ?_) hkp⟩
      · rw [getD_set hlt] at h; simpa [Ne.symm n2] using h
      · rw [getD_set hlt] at h; simpa [Ne.symm n2] using h
    rcases hstep i o ho with ⟨hno, hnow, hv⟩ | ⟨f, hf1, rfl, hnos, hnow, huniq, hRi, hv⟩ | ⟨f, hf1, rfl, hnoa, hnow, huniq, huniqa, hT, hRi, ⟨e, he, hbd, hea⟩, hv⟩ | ⟨f, hf1, rfl, hnoe, huniq, hT, hRi, hv⟩
    · refine hv x w1 hkW hsno hdep K' (fun v w' hRv hbw => hK _ _ ?_)
      have hkp : Below B w1 w' := (hbw.mono (Nat.le_trans hB hsz))
      refine ⟨Nat.le_trans hsz hbw.size, upd x i v, hput i o ho x v, ⟨hkW.trans hkp, hb.trans (hbw.mono (Nat.le_trans hB hsz))⟩, fun j hj => ?_, hcl', fun f hfe hfa => ?_, fun f hfe f' hfe' hne h1 h2 => ?_, howk w' hkp (fun g t c h _ => h.below hbw h.lt) hnow⟩
      · by_cases h : j = i
        · subst h; rw [upd_same]; exact hRv
        · rw [upd_ne _ _ h]; rw [getD_set hlt] at hj; exact hR _ _ _ _ (hr j (by simpa [h] using hj)) hkp
      · rw [getD_set hlt] at hfa
        have n1 := (hno f hfe).1
        have n2 := (hno f hfe).2
        rw [upd_ne _ _ (Ne.symm n1)]
        obtain ⟨g, c, e1, e2, e3, e4, e5⟩ := hf f hfe (by simpa [Ne.symm n1] using hfa)
        refine ⟨g, c, e1, e2, e3.below hbw e3.lt, fun h => e4 ?_, fun h => hPS f hfe _ _ _ (e5 ?_) hkp⟩
        · rw [getD_set hlt] at h; simpa [Ne.symm n2] using h
        · rw [getD_set hlt] at h; simpa [Ne.symm n2] using h
      · rw [getD_set hlt] at h1 h2
        have n1 := (hno f hfe).1
        have n2 := (hno f' hfe').1
        rw [upd_ne _ _ (Ne.symm n1), upd_ne _ _ (Ne.symm n2)]
        exact hd f hfe f' hfe' hne (by simpa [Ne.symm n1] using h1) (by simpa [Ne.symm n2] using h2)
    · refine hv x w1 K' (hK _ _ ?_)
      have hkp : Below B w1 (w1.alloc (.cells f.Z f.T)) := ((Below.refl B w1).alloc (Nat.le_trans hB hsz) _)
      have hsl : L.getD f.s false = false := by
        cases h : L.getD f.s false
        · rfl
        · exfalso
          obtain ⟨o', ho'⟩ : ∃ o', ops[f.s]? = some o' := ⟨_, Array.getElem?_eq_getElem (hfs f hf1).2⟩
          rcases hstep f.s o' ho' with ⟨hno, _⟩ | ⟨f2, hf2, e2, hnos2, _⟩ | ⟨f2, hf2, e2, _, _, hu2, _, _, _, ⟨e, he, hbd, hea⟩, _⟩ | ⟨f2, hf2, e2, hno2, _⟩
          · exact (hno f hf1).2 rfl
          · exact hnos2 f hf1 rfl
          · have := hu2 f hf1 rfl
            subst this
            have := hcl f.s o' ho' h e he hbd
            rw [hea] at this
            rw [this] at hunf; cases hunf
          · exact (hno2 f hf1).2 rfl
      refine ⟨by simp; omega, upd x f.a _, hput f.a o ho x _, ⟨hkW.alloc (Nat.le_trans hB hsz) _, hb.alloc (Nat.le_trans hB hsz) _⟩, fun j hj => ?_, hcl', fun f' hfe hfa => ?_, fun f1 hfe f2 hfe' hne h1 h2 => ?_, howk _ hkp (fun g t c h _ => h.alloc _) hnow⟩
      · by_cases h : j = f.a
        · subst h; exact hRi _ _
        · rw [upd_ne _ _ h]; rw [getD_set hlt] at hj; exact hR _ _ _ _ (hr j (by simpa [h] using hj)) hkp
      · by_cases h : f'.a = f.a
        · have := huniq f' hfe h
          subst this
          rw [upd_same]
          refine ⟨_, _, rfl, hsz, Blk.new _ _ _, fun _ => rfl, fun h' => ?_⟩
          rw [getD_set hlt, hsl] at h'
          have : f'.s = f'.a := by simpa using h'
          exact absurd this.symm (hnos f' hfe)
        · rw [upd_ne _ _ h]
          rw [getD_set hlt] at hfa
          have n2 := hnos f' hfe
          obtain ⟨g, c, e1, e2, e3, e4, e5⟩ := hf f' hfe (by simpa [h] using hfa)
          refine ⟨g, c, e1, e2, e3.alloc _, fun h => e4 ?_, fun h => hPS f' hfe _ _ _ (e5 ?_) hkp⟩
          · rw [getD_set hlt] at h; simpa [Ne.symm n2] using h
          · rw [getD_set hlt] at h; simpa [Ne.symm n2] using h
      · rw [getD_set hlt] at h1 h2
        have fresh : ∀ f3 ∈ es, f3.a ≠ f.a → L.getD f3.a false = true → x f3.a ≠ .pointer (some ⟨w1.heap.size, 0, none⟩) := by
          intro f3 h3 hne3 hl3 heq
          obtain ⟨g, c, e1, e2, e3, _⟩ := hf f3 h3 hl3
          rw [e1] at heq
          have hg := e3.lt
          injection heq with heq; injection heq with heq; injection heq with heq
          omega
        by_cases c1 : f1.a = f.a
        · have c2 : f2.a ≠ f.a := fun h => hne (c1.trans h.symm)
          rw [c1, upd_same, upd_ne _ _ c2]
          exact (fresh f2 hfe' c2 (by simpa [c2] using h2)).symm
        · rw [upd_ne _ _ c1]
          by_cases c2 : f2.a = f.a
          · rw [c2, upd_same]; exact fresh f1 hfe c1 (by simpa [c1] using h1)
          · rw [upd_ne _ _ c2]; exact hd f1 hfe f2 hfe' hne (by simpa [c1] using h1) (by simpa [c2] using h2)
    · have hal : L.getD f.a false = true := by rw [← hea]; exact hall e he hbd
      obtain ⟨g, c, e1, e2, e3, e4, e5⟩ := hf f hf1 hal
      have hc := e4 hunf
      subst hc
      obtain ⟨us, hus, hv⟩ := hv x w1 g e1 e3 hdep
      refine hv K' (fun v => hK _ _ ?_)
      have hkp : Below B w1 (setFrom w1 g 0 us) := setFrom_below (Nat.le_trans hB e2) us 0 w1 (Below.refl _ _)
      have hnb : ∀ f3 ∈ es, f3.a ≠ f.s := fun f3 h3 h => hnoa f3 h3 h.symm
      refine ⟨Nat.le_trans hsz (Nat.le_of_eq (setFrom_size us 0 w1).symm), upd x f.s v, hput f.s o ho x v, ⟨hkW.trans hkp, setFrom_below (Nat.le_trans hB e2) us 0 w1 hb⟩, fun j hj => ?_, hcl', fun f' hfe hfa => ?_, fun f1 hfe f2 hfe' hne h1 h2 => ?_, howk _ hkp (fun g2 t c h hex => setFrom_far (by obtain ⟨f2, h2, rfl⟩ := hex; have := (hO f2 h2).1.lt; omega) us 0 w1 h) hnow⟩
      · by_cases h : j = f.s
        · subst h; exact hRi _ _
        · rw [upd_ne _ _ h]; rw [getD_set hlt] at hj; exact hR _ _ _ _ (hr j (by simpa [h] using hj)) hkp
      · rw [upd_ne _ _ (hnb f' hfe)]
        rw [getD_set hlt] at hfa
        by_cases h : f'.a = f.a
        · have := huniqa f' hfe h
          subst this
          refine ⟨g, _, e1, e2, setFrom_blk us 0 w1 _ e3, fun h' => ?_, fun _ => hus _ hkp⟩
          rw [getD_set hlt] at h'; simp at h'
        · have n2 : f'.s ≠ f.s := fun h2 => h (by rw [huniq f' hfe h2])
          obtain ⟨g', c', d1, d2, d3, d4, d5⟩ := hf f' hfe (by simpa [hnb f' hfe] using hfa)
          have hgg : g' ≠ g := by
            rintro rfl
            exact hd f' hfe f hf1 h (by simpa [hnb f' hfe] using hfa) hal (d1.trans e1.symm)
          refine ⟨g', c', d1, d2, setFrom_far hgg us 0 w1 d3, fun h => d4 ?_, fun h => hPS f' hfe _ _ _ (d5 ?_) hkp⟩
          · rw [getD_set hlt] at h; simpa [n2] using h
          · rw [getD_set hlt] at h; simpa [n2] using h
      · rw [getD_set hlt] at h1 h2
        rw [upd_ne _ _ (hnb f1 hfe), upd_ne _ _ (hnb f2 hfe')]
        exact hd f1 hfe f2 hfe' hne (by simpa [hnb f1 hfe] using h1) (by simpa [hnb f2 hfe'] using h2)
    · obtain ⟨c, c1, c2, _⟩ := how f hf1
      have hc := c2 hunf
      subst hc
      obtain ⟨us, hus, hv⟩ := hv x w1 c1 hdep
      refine hv K' (fun v => hK _ _ ?_)
      have hkp : Below B w1 (setFrom w1 f.g f.o us) := setFrom_below (hO f hf1).2 us f.o w1 (Below.refl _ _)
      have hna : ∀ f3 ∈ es, f3.a ≠ f.s := fun f3 h3 h => (hnoe f3 h3).1 h.symm
      have hns : ∀ f3 ∈ es, f3.s ≠ f.s := fun f3 h3 h => (hnoe f3 h3).2 h.symm
      have hgl := (hO f hf1).1.lt
      refine ⟨Nat.le_trans hsz (Nat.le_of_eq (setFrom_size us f.o w1).symm), upd x f.s v, hput f.s o ho x v, ⟨hkW.trans hkp, setFrom_below (hO f hf1).2 us f.o w1 hb⟩, fun j hj => ?_, hcl', fun f' hfe hfa => ?_, fun f1 hfe f2 hfe' hne h1 h2 => ?_, fun f' hfo => ?_⟩
      · by_cases h : j = f.s
        · subst h; exact hRi _ _
        · rw [upd_ne _ _ h]; rw [getD_set hlt] at hj; exact hR _ _ _ _ (hr j (by simpa [h] using hj)) hkp
      · rw [upd_ne _ _ (hna f' hfe)]
        rw [getD_set hlt] at hfa
        have n2 := hns f' hfe
        obtain ⟨g', c', d1, d2, d3, d4, d5⟩ := hf f' hfe (by simpa [hna f' hfe] using hfa)
        refine ⟨g', c', d1, d2, setFrom_far (by omega) us f.o w1 d3, fun h => d4 ?_, fun h => hPS f' hfe _ _ _ (d5 ?_) hkp⟩
        · rw [getD_set hlt] at h; simpa [n2] using h
        · rw [getD_set hlt] at h; simpa [n2] using h
      · rw [getD_set hlt] at h1 h2
        rw [upd_ne _ _ (hna f1 hfe), upd_ne _ _ (hna f2 hfe')]
        exact hd f1 hfe f2 hfe' hne (by simpa [hna f1 hfe] using h1) (by simpa [hna f2 hfe'] using h2)
      · by_cases h : f'.s = f.s
        · have := huniq f' hfo h
          subst this
          refine ⟨_, setFrom_blk us f'.o w1 _ c1, fun h' => ?_, fun _ => hus _ hkp⟩
          rw [getD_set hlt] at h'; simp at h'
        · obtain ⟨c', d3, d4, d5⟩ := how f' hfo
          have hgg : f'.g ≠ f.g := fun h2 => h (by rw [hOd f' hfo f hf1 h2])
          refine ⟨c', setFrom_far hgg us f.o w1 d3, fun h2 => d4 ?_, fun h2 => hPO f' hfo _ _ _ (d5 ?_) hkp⟩
          · rw [getD_set hlt] at h2; simpa [h] using h2
          · rw [getD_set hlt] at h2; simpa [h] using h2
  · rintro L a w1 hs hr0 ⟨hsz, x, rfl, ⟨hkW, hb⟩, hr, hcl, hf, hd, how⟩
    have hallL : ∀ i, i < ops.size → L.getD i false = true := by
      intro i
      induction i using Nat.strongRecOn with
      | ind i ih =>
        intro hi
        cases h : L.getD i false
        · exfalso
          have : i ∈ Region.ready .any ops L := by
            refine mem_ready.2 ⟨?_, ops[i], Array.getElem?_eq_getElem hi, fun e he hbd => ?_⟩
            · rw [Array.getD_eq_getD_getElem?, Array.getElem?_eq_getElem (by omega)] at h ⊢; exact h
            · have h1 := hac i _ (Array.getElem?_eq_getElem hi) e he hbd
              exact ih e.on h1 (by omega)
          rw [hr0] at this; cases this
        · rfl
    refine hend x w1 hkW hb hsz (fun f hfo => ?_) (fun i hi => hr i (hallL i hi)) (fun f hfe => ?_) (fun f hfe f' hfe' hne => hd f hfe f' hfe' hne (hallL _ (hfs f hfe).1) (hallL _ (hfs f' hfe').1))
    · obtain ⟨c, c1, c2, c3⟩ := how f hfo
      refine ⟨c, c1, fun h => c2 ?_, fun h => c3 (hallL _ h)⟩
      rw [Array.getD_eq_getD_getElem?, Array.getElem?_eq_none (by omega)]; rfl
    obtain ⟨g, c, e1, e2, e3, _, e5⟩ := hf f hfe (hallL _ (hfs f hfe).1)
    exact ⟨g, c, e1, e2, e3, e5 (hallL _ (hfs f hfe).2)⟩
  · simp
  · have hz : ∀ j, (Array.replicate ops.size false).getD j false = false := by
      intro j; rw [Array.getD_eq_getD_getElem?, Array.getElem?_replicate]; split <;> rfl
    refine ⟨Nat.le_refl _, x0, rfl, ⟨(Below.refl B w).drew, (Below.refl B w).drew⟩, fun i h => ?_, fun i o _ h => ?_, fun f _ h => ?_, fun f _ f' _ _ h => ?_, fun f hfo => ⟨_, (hO f hfo).1.drew, fun _ => rfl, fun h => ?_⟩⟩ <;> rw [hz] at h <;> cases h
end

theorem ownDistB {ow : List OwnB} (h : ow.Pairwise (fun f f' => f.g ≠ f'.g)) : ∀ f ∈ ow, ∀ f' ∈ ow, f.g = f'.g → f = f' := by
  induction ow with
  | nil => intro f hf; cases hf
  | cons a l ih =>
    obtain ⟨h1, h2⟩ := List.pairwise_cons.1 h
    intro f hf f' hf' he
    rcases List.mem_cons.1 hf with h3 | h3
    · rcases List.mem_cons.1 hf' with h4 | h4
      · rw [h3, h4]
      · exact absurd (h3 ▸ he) (h1 _ h4)
    · rcases List.mem_cons.1 hf' with h4 | h4
      · exact absurd (h4 ▸ he).symm (h1 _ h3)
      · exact ih h2 f h3 f' h4 he
def AllBw (B : Nat) : List (Value → World → Prop) → Prop
  | [] => True
  | p :: l => (∀ v w w', p v w → Below B w w' → p v w') ∧ AllBw B l
theorem AllBw.get {B : Nat} : ∀ (l : List (Value → World → Prop)), AllBw B l → ∀ i v w w', l.getD i (fun _ _ => True) v w → Below B w w' → l.getD i (fun _ _ => True) v w' := by
  intro l
  induction l with
  | nil => intro _ i v w w' _ _; simp
  | cons p l ih =>
    intro h i v w w' hp hk
    cases i with
    | zero => exact h.1 v w w' hp hk
    | succ i => exact ih h.2 i v w w' hp hk
theorem bEq {B : Nat} (u : Value) : ∀ v w w', PEq u v w → Below B w w' → PEq u v w' := fun _ _ _ h _ => h
theorem bAny {B : Nat} : ∀ v w w', PAny v w → Below B w w' → PAny v w' := fun _ _ _ h _ => h
end Go.Proofs.YtckjakojllcdoaaGreatDoor

/- Plain laws of fractions: order, roots, grids. -/
namespace Bn
theorem wd_ext {l l' : List Nat} (hn : l.length = l'.length) (h : ∀ i, i < l.length → wd l i = wd l' i) : l = l' := by
  refine List.ext_getElem hn fun i h1 h2 => ?_
  have := h i h1
  rw [wd_get h1, wd_get h2] at this
  exact this
theorem wd_ne {l l' : List Nat} (hn : l.length = l'.length) (h : l ≠ l') : ∃ i, i < l.length ∧ wd l i ≠ wd l' i := by
  apply Classical.byContradiction
  intro hc
  apply h
  refine wd_ext hn fun i hi => ?_
  apply Classical.byContradiction
  intro e
  exact hc ⟨i, hi, e⟩
end Bn

/- Walks: fields that differ. -/
namespace Go.Proofs.YtckjakojllcdoaaGreatDoor
open Go Go.RowKit Bn
attribute [local go_sem ↓] Go.wp_at_zero Go.wp_at_succ
theorem b_words_ne (w : World) (A : Option Addr) (n c : Nat) (l : List Nat) (wa : Wd w A n c l) (A' : Option Addr) (n' c' : Nat) (l' : List Nat) (wb : Wd w A' n' c' l') (hne : l ≠ l') (hn : n ≤ 1000000000) (hn' : n' ≤ 1000000000) :
  Calls Tryz.prog 86 #[.slice A n c, .slice A' n' c'] w (RetV w (.bool false)) := by
 by_cases hnn : n' = n
 ·subst hnn
  obtain ⟨j, hj, hjn⟩ := wd_ne (by rw [← wa.2.1, ← wb.2.1]) hne
  rw [← wa.2.1] at hj
  have HA := Lib.hid wa
  have HB := Lib.hid wb
  have HJ := Lib.hid hjn
  clear wa wb hne hjn
  go_enter Tryz.func86, Tryz.ntmps86
  go_wp2_with fail
  go_loopw [5] (fun iv wr => ∃ (i q : Nat), i ≤ j ∧ iv = .int .i64 (i : Nat) ∧ wr = w.drewN q) (fun iv _ => n' - (intOf iv).toNat)
  case atStart => exact ⟨0, 0, Nat.zero_le _, rfl, rfl⟩
  case round =>
   obtain ⟨i, q, hi, rfl, rfl⟩ := hrel
   have hlt : i < n' := by omega
   obtain ⟨g, o, rfl, hc1⟩ := HA.out.at_ (by omega)
   obtain ⟨g', o', rfl, hc2⟩ := HB.out.at_ (by omega)
   have h1 := hc1 i hlt
   have h2 := hc2 i hlt
   have hi0 : (0 : Int) ≤ (i : Int) := by omega
   have hi1 : (i : Int) < (n' : Int) := by omega
   have HIJ := Lib.hid (show i = j → wd l i ≠ wd l' i by rintro rfl; exact HJ.out)
   generalize wd l i = x at h1 HIJ
   generalize wd l' i = y at h2 HIJ
   clear hc1 hc2
   by_cases hxy : x = y
   ·subst hxy
    have hij : i < j := by
     rcases Nat.lt_or_ge i j with h | h
     ·exact h
     ·exact absurd rfl (HIJ.out (by omega))
    go_wp2_with fail
    go_quiet (fail)
    go_wp2
    go_roundw
    case rel => exact ⟨i + 1, _, by omega, by go_num, rfl⟩
    case measure => simp [intOf]; omega
   ·have hxy2 : ¬ (x : Int) = (y : Int) := by omega
    go_wp2_with fail
    go_quiet (fail)
    go_wp2
    go_ret
    exact retB rfl (by repeat (first | exact Below.refl _ _ | refine below_drewN ?_ _))
 ·have e1 : ((n : Int) == (n' : Int)) = false := by simp; omega
  have e2 : ¬ (n : Int) = (n' : Int) := by omega
  clear wa wb
  go_enter Tryz.func86, Tryz.ntmps86
  go_wp2_with fail
  go_ret
  exact retB rfl (brefl w)
theorem b_rat_ne1 (w : World) (b : Bool) (A : Option Addr) (n c : Nat) (D : Option Addr) (m e : Nat) (r : RD) (k : Nat) (h : QD w b A n c D m e r k) (b' : Bool) (A' : Option Addr) (n' c' : Nat) (D' : Option Addr) (m' e' : Nat) (r' : RD) (k' : Nat) (h' : QD w b' A' n' c' D' m' e' r' k') (hne : b ≠ b') (hk : k ≤ 1000000) (hk' : k' ≤ 1000000) :
  Calls Tryz.prog 57 #[.agg #[.bool b, .slice A n c, .slice D m e], .agg #[.bool b', .slice A' n' c', .slice D' m' e']] w (RetV w (.bool false)) := by
 obtain ⟨e1, ha, hd, hk1, hk2⟩ := h
 obtain ⟨e1', ha', hd', hk1', hk2'⟩ := h'
 have HE : (b == b') = false := by simpa using hne
 have HE2 : ¬ b = b' := hne
 clear ha hd ha' hd' e1 e1'
 go_enter Tryz.func57, Tryz.ntmps57
 go_wp2_with fail
 go_ret
 exact retB rfl (((brefl w).alloc (Nat.le_refl _) _).alloc (by simp) _)
theorem b_rat_ne2 (w : World) (b : Bool) (A : Option Addr) (n c : Nat) (D : Option Addr) (m e : Nat) (r : RD) (k : Nat) (h : QD w b A n c D m e r k) (b' : Bool) (A' : Option Addr) (n' c' : Nat) (D' : Option Addr) (m' e' : Nat) (r' : RD) (k' : Nat) (h' : QD w b' A' n' c' D' m' e' r' k') (hbb : b = b') (hne : r.num ≠ r'.num) (hk : k ≤ 1000000) (hk' : k' ≤ 1000000) :
  Calls Tryz.prog 57 #[.agg #[.bool b, .slice A n c, .slice D m e], .agg #[.bool b', .slice A' n' c', .slice D' m' e']] w (RetV w (.bool false)) := by
 obtain ⟨e1, ha, hd, hk1, hk2⟩ := h
 obtain ⟨e1', ha', hd', hk1', hk2'⟩ := h'
 subst hbb
 have HE : (b == b) = true := by simp
 have HA := Lib.hid (And.intro ha ha')
 have HD := Lib.hid (And.intro hd hd')
 have HN := Lib.hid hne
 clear ha ha' hd hd' hne e1 e1'
 go_enter Tryz.func57, Tryz.ntmps57
 go_wp2_with fail
 (with_reducible refine (b_words_ne _ A n c r.num ?_ A' n' c' r'.num ?_ ?_ ?_ ?_).mono ?_); (exact HA.out.1.keep (((Kp.refl _).alloc _).alloc _)); (exact HA.out.2.keep (((Kp.refl _).alloc _).alloc _)); (exact HN.out); (omega); (omega); rintro e w1 ⟨rfl, hb⟩
 have q1 : Below w.heap.size w w1 := (((Below.refl _ _).alloc (Nat.le_refl _) _).alloc (by simp) _).trans (hb.mono (by simp <;> omega))
 have x0 : Blk w1 w.heap.size 41 #[.bool b, .slice A n c, .slice D m e] := ((blkAt w _ _ rfl).alloc _).below hb (by simp <;> omega)
 have x1 : Blk w1 (w.heap.size + 1) 41 #[.bool b, .slice A' n' c', .slice D' m' e'] := (blkAt _ _ _ (by simp)).below hb (by simp)
 have c02 : w1.cell? ⟨w.heap.size, 2, none⟩ = some (.slice D m e) := x0.cell 2
 have c12 : w1.cell? ⟨w.heap.size + 1, 2, none⟩ = some (.slice D' m' e') := x1.cell 2
 clear hb
 go_wp2_with fail
 go_ret
 exact ⟨rfl, q1⟩
theorem b_rat_ne3 (w : World) (b : Bool) (A : Option Addr) (n c : Nat) (D : Option Addr) (m e : Nat) (r : RD) (k : Nat) (h : QD w b A n c D m e r k) (b' : Bool) (A' : Option Addr) (n' c' : Nat) (D' : Option Addr) (m' e' : Nat) (r' : RD) (k' : Nat) (h' : QD w b' A' n' c' D' m' e' r' k') (hbb : b = b') (hnn : r.num = r'.num) (hne : r.den ≠ r'.den) (hk : k ≤ 1000000) (hk' : k' ≤ 1000000) :
  Calls Tryz.prog 57 #[.agg #[.bool b, .slice A n c, .slice D m e], .agg #[.bool b', .slice A' n' c', .slice D' m' e']] w (RetV w (.bool false)) := by
 obtain ⟨e1, ha, hd, hk1, hk2⟩ := h
 obtain ⟨e1', ha', hd', hk1', hk2'⟩ := h'
 rw [← hnn] at ha'
 subst hbb
 have HE : (b == b) = true := by simp
 have HA := Lib.hid (And.intro ha ha')
 have HD := Lib.hid (And.intro hd hd')
 have HN := Lib.hid hne
 clear ha ha' hd hd' hne e1 e1'
 go_enter Tryz.func57, Tryz.ntmps57
 go_wp2_with fail
 (with_reducible refine (b_words _ A n c r.num ?_ A' n' c' ?_ ?_).mono ?_); (exact HA.out.1.keep (((Kp.refl _).alloc _).alloc _)); (exact HA.out.2.keep (((Kp.refl _).alloc _).alloc _)); (omega); rintro e w1 ⟨rfl, hb⟩
 have q1 : Below w.heap.size w w1 := (((Below.refl _ _).alloc (Nat.le_refl _) _).alloc (by simp) _).trans (hb.mono (by simp <;> omega))
 have x0 : Blk w1 w.heap.size 41 #[.bool b, .slice A n c, .slice D m e] := ((blkAt w _ _ rfl).alloc _).below hb (by simp <;> omega)
 have x1 : Blk w1 (w.heap.size + 1) 41 #[.bool b, .slice A' n' c', .slice D' m' e'] := (blkAt _ _ _ (by simp)).below hb (by simp)
 have c02 : w1.cell? ⟨w.heap.size, 2, none⟩ = some (.slice D m e) := x0.cell 2
 have c12 : w1.cell? ⟨w.heap.size + 1, 2, none⟩ = some (.slice D' m' e') := x1.cell 2
 clear hb
 go_wp2_with fail
 (with_reducible refine (b_words_ne _ D m e r.den ?_ D' m' e' r'.den ?_ ?_ ?_ ?_).mono ?_); (exact HD.out.1.belw q1); (exact HD.out.2.belw q1); (exact HN.out); (omega); (omega); rintro e w2 ⟨rfl, hb2⟩
 go_wp2_with fail
 go_ret
 exact ⟨rfl, q1.trans (hb2.mono q1.size)⟩
end Go.Proofs.YtckjakojllcdoaaGreatDoor

/- Walks: linkworkbase.Rat, Body and Linkage, of any two. -/
namespace Go.Proofs.YtckjakojllcdoaaGreatDoor
open Go Go.RowKit Bn
attribute [local go_sem ↓] Go.wp_at_zero Go.wp_at_succ
theorem b_rat_eq (w : World) (b : Bool) (A : Option Addr) (n c : Nat) (D : Option Addr) (m e : Nat) (b' : Bool) (A' : Option Addr) (n' c' : Nat) (D' : Option Addr) (m' e' : Nat) (r : RD) (k k' : Nat) (h : QD w b A n c D m e r k) (h' : QD w b' A' n' c' D' m' e' r k') (hk : k ≤ 1000000) :
  Calls Tryz.prog 57 #[.agg #[.bool b, .slice A n c, .slice D m e], .agg #[.bool b', .slice A' n' c', .slice D' m' e']] w (RetV w (.bool true)) := by
 obtain ⟨e1, ha, hd, hk1, hk2⟩ := h
 obtain ⟨e1', ha', hd', _, _⟩ := h'
 subst e1 e1'
 have HE : (r.neg == r.neg) = true := by simp
 have HA := Lib.hid (And.intro ha ha')
 have HD := Lib.hid (And.intro hd hd')
 clear ha ha' hd hd'
 go_enter Tryz.func57, Tryz.ntmps57
 go_wp2_with fail
 (with_reducible refine (b_words _ A n c r.num ?_ A' n' c' ?_ ?_).mono ?_); (exact HA.out.1.keep (((Kp.refl _).alloc _).alloc _)); (exact HA.out.2.keep (((Kp.refl _).alloc _).alloc _)); (omega); rintro e w1 ⟨rfl, hb⟩
 have q1 : Below w.heap.size w w1 := (((Below.refl _ _).alloc (Nat.le_refl _) _).alloc (by simp) _).trans (hb.mono (by simp <;> omega))
 have x0 : Blk w1 w.heap.size 41 #[.bool r.neg, .slice A n c, .slice D m e] := ((blkAt w _ _ rfl).alloc _).below hb (by simp <;> omega)
 have x1 : Blk w1 (w.heap.size + 1) 41 #[.bool r.neg, .slice A' n' c', .slice D' m' e'] := (blkAt _ _ _ (by simp)).below hb (by simp)
 have c02 : w1.cell? ⟨w.heap.size, 2, none⟩ = some (.slice D m e) := x0.cell 2
 have c12 : w1.cell? ⟨w.heap.size + 1, 2, none⟩ = some (.slice D' m' e') := x1.cell 2
 clear hb
 go_wp2_with fail
 (with_reducible refine (b_words _ D m e r.den ?_ D' m' e' ?_ ?_).mono ?_); (exact HD.out.1.belw q1); (exact HD.out.2.belw q1); (omega); rintro e w2 ⟨rfl, hb2⟩
 go_wp2_with fail
 go_ret
 exact ⟨rfl, q1.trans (hb2.mono q1.size)⟩
theorem b_rat_d (w : World) (b : Bool) (A : Option Addr) (n c : Nat) (D : Option Addr) (m e : Nat) (b' : Bool) (A' : Option Addr) (n' c' : Nat) (D' : Option Addr) (m' e' : Nat) (r r' : RD) (k k' : Nat) (h : QD w b A n c D m e r k) (h' : QD w b' A' n' c' D' m' e' r' k') (hk : k ≤ 1000000) (hk' : k' ≤ 1000000) (v : Bool) (hv : v = true ↔ r = r') :
    Calls Tryz.prog 57 #[.agg #[.bool b, .slice A n c, .slice D m e], .agg #[.bool b', .slice A' n' c', .slice D' m' e']] w (RetV w (.bool v)) := by
  by_cases e1 : r = r'
  · subst e1
    rw [hv.2 rfl]
    exact b_rat_eq w b A n c D m e b' A' n' c' D' m' e' r k k' h h' hk
  · have hvf : v = false := by cases v; rfl; exact absurd (hv.1 rfl) e1
    subst hvf
    by_cases eb : b = b'
    · by_cases en : r.num = r'.num
      · refine b_rat_ne3 w b A n c D m e r k h b' A' n' c' D' m' e' r' k' h' eb en (fun ed => e1 ?_) hk hk'
        have hn : r.neg = r'.neg := by rw [h.1, h'.1, eb]
        obtain ⟨a1, a2, a3⟩ := r
        obtain ⟨b1, b2, b3⟩ := r'
        simp only at hn en ed
        rw [hn, en, ed]
      · exact b_rat_ne2 w b A n c D m e r k h b' A' n' c' D' m' e' r' k' h' eb en hk hk'
    · exact b_rat_ne1 w b A n c D m e r k h b' A' n' c' D' m' e' r' k' h' eb hk hk'
def Cells7 (w : World) (g o : Nat) (s : Value) (b1 : Bool) (A1 : Option Addr) (n1 c1 : Nat) (D1 : Option Addr) (m1 e1 : Nat) (b2 : Bool) (A2 : Option Addr) (n2 c2 : Nat) (D2 : Option Addr) (m2 e2 : Nat) : Prop :=
  w.cell? ⟨g, o, none⟩ = some s ∧ w.cell? ⟨g, o + 1, none⟩ = some (.bool b1) ∧ w.cell? ⟨g, o + 2, none⟩ = some (.slice A1 n1 c1) ∧ w.cell? ⟨g, o + 3, none⟩ = some (.slice D1 m1 e1) ∧ w.cell? ⟨g, o + 4, none⟩ = some (.bool b2) ∧ w.cell? ⟨g, o + 5, none⟩ = some (.slice A2 n2 c2) ∧ w.cell? ⟨g, o + 6, none⟩ = some (.slice D2 m2 e2)
section
variable {w w' : World} {g o : Nat} {s : Value} {b1 b2 : Bool} {A1 D1 A2 D2 : Option Addr} {n1 c1 m1 e1 n2 c2 m2 e2 : Nat}
theorem cells7 (h0 : w.cell? ⟨g, o, none⟩ = some s) (h1 : w.cell? ⟨g, o + 1, none⟩ = some (.bool b1)) (h2 : w.cell? ⟨g, o + 1 + 1, none⟩ = some (.slice A1 n1 c1)) (h3 : w.cell? ⟨g, o + 1 + 2, none⟩ = some (.slice D1 m1 e1)) (h4 : w.cell? ⟨g, o + 4, none⟩ = some (.bool b2)) (h5 : w.cell? ⟨g, o + 4 + 1, none⟩ = some (.slice A2 n2 c2)) (h6 : w.cell? ⟨g, o + 4 + 2, none⟩ = some (.slice D2 m2 e2)) : Cells7 w g o s b1 A1 n1 c1 D1 m1 e1 b2 A2 n2 c2 D2 m2 e2 := ⟨h0, h1, h2, h3, h4, h5, h6⟩
theorem cells7_belw (h : Cells7 w g o s b1 A1 n1 c1 D1 m1 e1 b2 A2 n2 c2 D2 m2 e2) (hb : Below w.heap.size w w') :
    w'.cell? ⟨g, o, none⟩ = some s ∧ w'.cell? ⟨g, o + 1, none⟩ = some (.bool b1) ∧ w'.cell? ⟨g, o + 2, none⟩ = some (.slice A1 n1 c1) ∧ w'.cell? ⟨g, o + 3, none⟩ = some (.slice D1 m1 e1) ∧ w'.cell? ⟨g, o + 4, none⟩ = some (.bool b2) ∧ w'.cell? ⟨g, o + 5, none⟩ = some (.slice A2 n2 c2) ∧ w'.cell? ⟨g, o + 6, none⟩ = some (.slice D2 m2 e2) :=
  ⟨cell_belw h.1 hb, cell_belw h.2.1 hb, cell_belw h.2.2.1 hb, cell_belw h.2.2.2.1 hb, cell_belw h.2.2.2.2.1 hb, cell_belw h.2.2.2.2.2.1 hb, cell_belw h.2.2.2.2.2.2 hb⟩
end
theorem bool_of (p : Prop) : ∃ v : Bool, v = true ↔ p := by
  by_cases h : p
  · exact ⟨true, by simp [h]⟩
  · exact ⟨false, by simp [h]⟩
theorem gt_jt : Tryz.prog.eqGuardType Tryz.prog.depth 59 = false := by kernel_rfl
theorem gh_jt : Tryz.prog.stoodInHeld 59 = false := by kernel_rfl
theorem gt_dr : Tryz.prog.eqGuardType Tryz.prog.depth 64 = false := by kernel_rfl
theorem gh_dr : Tryz.prog.stoodInHeld 64 = false := by kernel_rfl
theorem take_next {α : Type} {l m : List α} {i : Nat} {a : α} (h : l.take i = m.take i) (h1 : l[i]? = some a) (h2 : m[i]? = some a) : l.take (i + 1) = m.take (i + 1) := by rw [List.take_add_one, List.take_add_one, h, h1, h2]
theorem b_body_d (w : World) (A : Option Addr) (n c : Nat) (a : BodyL) (h : SlS (MkAt 1000000) 7 w A n c a.pts) (A' : Option Addr) (n' c' : Nat) (b : BodyL) (h' : SlS (MkAt 1000000) 7 w A' n' c' b.pts) (hn : n ≤ 1000) (v : Bool) (hv : v = true ↔ a = b) :
    Calls Tryz.prog 32 #[.agg #[strV a.name, .slice A n c], .agg #[strV b.name, .slice A' n' c']] w (RetV w (.bool v)) := by
  have H := Lib.hid (And.intro h h')
  have HV := Lib.hid hv
  clear h h' hv
  by_cases en : a.name = b.name
  · by_cases el : n = n'
    · subst el
      have hs : (a.name == b.name) = true := beq_iff_eq.2 en
      have HN := Lib.hid en
      have hnc := H.out.1.2.1
      have hnc' := H.out.2.2.1
      have HLA := Lib.hid H.out.1.1
      have HLB := Lib.hid H.out.2.1
      clear en
      go_enter Tryz.func32, Tryz.ntmps32
      go_wp2_with fail
      go_loopw [5] (fun iv wr => ∃ i : Nat, iv = .int .i64 (i : Nat) ∧ i ≤ n ∧ Hid (a.pts.take i = b.pts.take i) ∧ Blk wr w.heap.size 38 #[strV a.name, .slice A n c] ∧ Blk wr (w.heap.size + 1) 38 #[strV b.name, .slice A' n c'] ∧ Below w.heap.size w wr) (fun iv _ => n - (intOf iv).toNat)
      case atStart => exact ⟨0, rfl, Nat.zero_le _, Lib.hid rfl, (blkAt w _ _ rfl).alloc _, blkAt _ _ _ (by simp), ((brefl w).alloc (Nat.le_refl _) _).alloc (by simp) _⟩
      case round =>
        obtain ⟨i, rfl, hi, HI, xa, xb, bwa⟩ := hrel
        rename World => wa
        have hla : w.heap.size < wa.heap.size := xa.lt
        have hlb : w.heap.size + 1 < wa.heap.size := xb.lt
        rcases Nat.lt_or_ge i n with hlt | hge
        · have hi1 : ((i : Int) < (n : Int)) = True := by simp; omega
          obtain ⟨g, o, x, e1, hg, _, hxi, hX⟩ := H.out.1.at_ hlt
          subst e1
          obtain ⟨g9, o9, y, e1, hg9, _, hyi, hY⟩ := H.out.2.at_ hlt
          subst e1
          have ca1 := xa.cell 1
          obtain ⟨d0, ⟨b1, A1, n1, c1, D1, m1, e1, d1, d2, d3, hQ1⟩, ⟨b2, A2, n2, c2, D2, m2, e2, d4, d5, d6, hQ2⟩, _⟩ := hX
          obtain ⟨f0, ⟨b3, A3, n3, c3, D3, m3, e3, f1, f2, f3, hQ3⟩, ⟨b4, A4, n4, c4, D4, m4, e4, f4, f5, f6, hQ4⟩, _⟩ := hY
          have HM1 := Lib.hid (cells7 d0 d1 d2 d3 d4 d5 d6)
          have HM2 := Lib.hid (cells7 f0 f1 f2 f3 f4 f5 f6)
          have HQ := Lib.hid (And.intro hQ1 (And.intro hQ2 (And.intro hQ3 hQ4)))
          have HXI := Lib.hid (And.intro hxi hyi)
          clear d0 d1 d2 d3 d4 d5 d6 f0 f1 f2 f3 f4 f5 f6 hQ1 hQ2 hQ3 hQ4 hxi hyi
          go_wp2_with fail
          clear ca1
          have hi2 : ((i : Int) < (n : Int)) := by omega
          refine wp_region_own (B := w.heap.size) (fr := fun xf => ⟨List.toArray (.agg #[strV a.name, .slice (some ⟨g, o, none⟩) n c] :: .agg #[strV b.name, .slice (some ⟨g9, o9, none⟩) n c'] :: .pointer (some ⟨w.heap.size, 0, none⟩) :: .pointer (some ⟨w.heap.size + 1, 0, none⟩) :: u4 :: .int .i64 (i : Nat) :: xf 10 :: xf 11 :: .pointer (some ⟨w.heap.size, 0, none⟩) :: strV a.name :: .pointer (some ⟨w.heap.size + 1, 0, none⟩) :: strV b.name :: .bool false :: .bool false :: .pointer (some ⟨w.heap.size, 1, none⟩) :: .slice (some ⟨g, o, none⟩) n c :: .int .i64 (n : Nat) :: .pointer (some ⟨w.heap.size + 1, 1, none⟩) :: .slice (some ⟨g9, o9, none⟩) n c' :: .int .i64 (n : Nat) :: .bool false :: .bool false :: .int .i64 (i : Nat) :: .pointer (some ⟨w.heap.size, 1, none⟩) :: .slice (some ⟨g, o, none⟩) n c :: .int .i64 (n : Nat) :: .bool true :: u27 :: u28 :: xf 0 :: xf 1 :: xf 2 :: xf 3 :: xf 4 :: xf 5 :: xf 6 :: xf 7 :: xf 8 :: xf 9 :: u39 :: u40 :: u41 :: u42 :: u43 :: u44 :: u45 :: u46 :: u47 :: u48 :: u49 :: u50 :: u51 :: u52 :: u53 :: u54 :: u55 :: u56 :: u57 :: u58 :: u59 :: []), []⟩) (R := fun ri => List.getD ((PEq (.pointer (some ⟨w.heap.size, 1, none⟩))) :: (PEq (.slice (some ⟨g, o, none⟩) n c)) :: (PEq (.int .i64 (i : Nat))) :: (PEq (.pointer (some ⟨g, o + i * 7, none⟩))) :: (PEq (.agg #[strV x.name, .bool b1, .slice A1 n1 c1, .slice D1 m1 e1, .bool b2, .slice A2 n2 c2, .slice D2 m2 e2])) :: (PEq (.pointer (some ⟨w.heap.size + 1, 1, none⟩))) :: (PEq (.slice (some ⟨g9, o9, none⟩) n c')) :: (PEq (.int .i64 (i : Nat))) :: (PEq (.pointer (some ⟨g9, o9 + i * 7, none⟩))) :: (PEq (.agg #[strV y.name, .bool b3, .slice A3 n3 c3, .slice D3 m3 e3, .bool b4, .slice A4 n4 c4, .slice D4 m4 e4])) :: PAny :: PAny :: PAny :: PAny :: []) ri (fun _ _ => True)) (es := [⟨10, 12, 50, #[.string ⟨#[]⟩, .bool false, .slice none 0 0, .slice none 0 0, .bool false, .slice none 0 0, .slice none 0 0], fun cz _ => cz = #[strV x.name, .bool b1, .slice A1 n1 c1, .slice D1 m1 e1, .bool b2, .slice A2 n2 c2, .slice D2 m2 e2]⟩, ⟨11, 13, 50, #[.string ⟨#[]⟩, .bool false, .slice none 0 0, .slice none 0 0, .bool false, .slice none 0 0, .slice none 0 0], fun cz _ => cz = #[strV y.name, .bool b3, .slice A3 n3 c3, .slice D3 m3 e3, .bool b4, .slice A4 n4 c4, .slice D4 m4 e4]⟩]) (ow := [⟨w.heap.size, 14, 0, 38, #[strV a.name, .slice (some ⟨g, o, none⟩) n c], fun _ _ => True⟩, ⟨w.heap.size + 1, 14, 0, 38, #[strV b.name, .slice (some ⟨g9, o9, none⟩) n c'], fun _ _ => True⟩]) (x0 := (upd (upd (upd (upd (upd (upd (upd (upd (upd (upd (upd (upd (fun _ => undef) 0 u29) 1 u30) 2 u31) 3 u32) 4 u33) 5 u34) 6 u35) 7 u36) 8 u37) 9 u38) 10 u6) 11 u7)) (by kernel_rfl)
            (each_of ⟨fun _ _ => rfl, fun _ _ => rfl, fun _ _ => rfl, fun _ _ => rfl, fun _ _ => rfl, fun _ _ => rfl, fun _ _ => rfl, fun _ _ => rfl, fun _ _ => rfl, fun _ _ => rfl, fun _ _ => rfl, fun _ _ => rfl, fun _ _ => rfl, fun _ _ => rfl, trivial⟩) (each_of (acyc_from _ 0 (by kernel_rfl))) (AllBw.get _ ⟨bEq _, bEq _, bEq _, bEq _, bEq _, bEq _, bEq _, bEq _, bEq _, bEq _, bAny, bAny, bAny, bAny, trivial⟩)
            (List.forall_mem_cons.2 ⟨fun _ _ _ h _ => h, List.forall_mem_cons.2 ⟨fun _ _ _ h _ => h, fun _ h => nomatch h⟩⟩) (List.forall_mem_cons.2 ⟨fun _ _ _ _ _ => True.intro, List.forall_mem_cons.2 ⟨fun _ _ _ _ _ => True.intro, fun _ h => nomatch h⟩⟩) (List.forall_mem_cons.2 ⟨⟨by simp, by simp⟩, List.forall_mem_cons.2 ⟨⟨by simp, by simp⟩, fun _ h => nomatch h⟩⟩) bwa.size
            (List.forall_mem_cons.2 ⟨⟨xa, Nat.le_refl _⟩, List.forall_mem_cons.2 ⟨⟨xb, by show w.heap.size ≤ w.heap.size + 1; omega⟩, fun _ h => nomatch h⟩⟩) (ownDistB (by simp <;> omega))
            (each_of ⟨?_, ?_, ?_, ?_, ?_, ?_, ?_, ?_, ?_, ?_, ?_, ?_, ?_, ?_, trivial⟩) ?_
          · exact .inl ⟨by simp, by simp, fun xf wq hk hbl hd K hK => by
              (try dsimp only)
              go_simp
              have hz := hK.out (.pointer (some ⟨w.heap.size, 1, none⟩)) _ rfl (brefl _)
              exact hz⟩
          · exact .inl ⟨by simp, by simp, fun xf wq hk hbl hd K hK => by
              have dq0 : xf 0 = .pointer (some ⟨w.heap.size, 1, none⟩) := hd ⟨0, .data⟩ (by simp) rfl
              have y : Blk wq w.heap.size 38 #[strV a.name, .slice (some ⟨g, o, none⟩) n c] := hbl _ (List.Mem.head _) (by simp [Region.binds])
              have hc1 : wq.cell? ⟨w.heap.size, 1, none⟩ = some (.slice (some ⟨g, o, none⟩) n c) := y.cell 1
              (try dsimp only); (try simp only [dq0])
              go_simp
              have hz := hK.out (.slice (some ⟨g, o, none⟩) n c) _ rfl (brefl _)
              simp only [dq0] at hz
              exact hz⟩
          · exact .inl ⟨by simp, by simp, fun xf wq hk hbl hd K hK => by
              (try dsimp only)
              go_simp
              have hz := hK.out (.int .i64 (i : Nat)) _ rfl (brefl _)
              exact hz⟩
          · exact .inl ⟨by simp, by simp, fun xf wq hk hbl hd K hK => by
              have dq1 : xf 1 = .slice (some ⟨g, o, none⟩) n c := hd ⟨1, .data⟩ (by simp) rfl
              have dq2 : xf 2 = .int .i64 (i : Nat) := hd ⟨2, .data⟩ (by simp) rfl
              (try dsimp only); (try simp only [dq1, dq2])
              go_simp
              have hz := hK.out (.pointer (some ⟨g, o + i * 7, none⟩)) _ rfl (brefl _)
              simp only [dq1, dq2] at hz
              exact hz⟩
          · exact .inl ⟨by simp, by simp, fun xf wq hk hbl hd K hK => by
              have dq3 : xf 3 = .pointer (some ⟨g, o + i * 7, none⟩) := hd ⟨3, .data⟩ (by simp) rfl
              obtain ⟨k0, k1, k2, k3, k4, k5, k6⟩ := cells7_belw HM1.out (bwa.trans hk)
              (try dsimp only); (try simp only [dq3])
              go_simp
              have hz := hK.out (.agg #[strV x.name, .bool b1, .slice A1 n1 c1, .slice D1 m1 e1, .bool b2, .slice A2 n2 c2, .slice D2 m2 e2]) _ rfl (brefl _)
              simp only [dq3] at hz
              exact hz⟩
          · exact .inl ⟨by simp, by simp, fun xf wq hk hbl hd K hK => by
              (try dsimp only)
              go_simp
              have hz := hK.out (.pointer (some ⟨w.heap.size + 1, 1, none⟩)) _ rfl (brefl _)
              exact hz⟩
          · exact .inl ⟨by simp, by simp, fun xf wq hk hbl hd K hK => by
              have dq5 : xf 5 = .pointer (some ⟨w.heap.size + 1, 1, none⟩) := hd ⟨5, .data⟩ (by simp) rfl
              have y : Blk wq (w.heap.size + 1) 38 #[strV b.name, .slice (some ⟨g9, o9, none⟩) n c'] := hbl _ (List.Mem.tail _ (List.Mem.head _)) (by simp [Region.binds])
              have hc1 : wq.cell? ⟨w.heap.size + 1, 1, none⟩ = some (.slice (some ⟨g9, o9, none⟩) n c') := y.cell 1
              (try dsimp only); (try simp only [dq5])
              go_simp
              have hz := hK.out (.slice (some ⟨g9, o9, none⟩) n c') _ rfl (brefl _)
              simp only [dq5] at hz
              exact hz⟩
          · exact .inl ⟨by simp, by simp, fun xf wq hk hbl hd K hK => by
              (try dsimp only)
              go_simp
              have hz := hK.out (.int .i64 (i : Nat)) _ rfl (brefl _)
              exact hz⟩
          · exact .inl ⟨by simp, by simp, fun xf wq hk hbl hd K hK => by
              have dq6 : xf 6 = .slice (some ⟨g9, o9, none⟩) n c' := hd ⟨6, .data⟩ (by simp) rfl
              have dq7 : xf 7 = .int .i64 (i : Nat) := hd ⟨7, .data⟩ (by simp) rfl
              (try dsimp only); (try simp only [dq6, dq7])
              go_simp
              have hz := hK.out (.pointer (some ⟨g9, o9 + i * 7, none⟩)) _ rfl (brefl _)
              simp only [dq6, dq7] at hz
              exact hz⟩
          · exact .inl ⟨by simp, by simp, fun xf wq hk hbl hd K hK => by
              have dq8 : xf 8 = .pointer (some ⟨g9, o9 + i * 7, none⟩) := hd ⟨8, .data⟩ (by simp) rfl
              obtain ⟨k0, k1, k2, k3, k4, k5, k6⟩ := cells7_belw HM2.out (bwa.trans hk)
              (try dsimp only); (try simp only [dq8])
              go_simp
              have hz := hK.out (.agg #[strV y.name, .bool b3, .slice A3 n3 c3, .slice D3 m3 e3, .bool b4, .slice A4 n4 c4, .slice D4 m4 e4]) _ rfl (brefl _)
              simp only [dq8] at hz
              exact hz⟩
          · exact .inr (.inl ⟨⟨10, 12, 50, #[.string ⟨#[]⟩, .bool false, .slice none 0 0, .slice none 0 0, .bool false, .slice none 0 0, .slice none 0 0], fun cz _ => cz = #[strV x.name, .bool b1, .slice A1 n1 c1, .slice D1 m1 e1, .bool b2, .slice A2 n2 c2, .slice D2 m2 e2]⟩, by simp, rfl, by simp, by simp, by simp, fun _ _ => True.intro, fun xf wq K hK => by
              (try dsimp only)
              go_simp
              exact hK.out⟩)
          · exact .inr (.inl ⟨⟨11, 13, 50, #[.string ⟨#[]⟩, .bool false, .slice none 0 0, .slice none 0 0, .bool false, .slice none 0 0, .slice none 0 0], fun cz _ => cz = #[strV y.name, .bool b3, .slice A3 n3 c3, .slice D3 m3 e3, .bool b4, .slice A4 n4 c4, .slice D4 m4 e4]⟩, by simp, rfl, by simp, by simp, by simp, fun _ _ => True.intro, fun xf wq K hK => by
              (try dsimp only)
              go_simp
              exact hK.out⟩)
          · exact .inr (.inr (.inl ⟨⟨10, 12, 50, #[.string ⟨#[]⟩, .bool false, .slice none 0 0, .slice none 0 0, .bool false, .slice none 0 0, .slice none 0 0], fun cz _ => cz = #[strV x.name, .bool b1, .slice A1 n1 c1, .slice D1 m1 e1, .bool b2, .slice A2 n2 c2, .slice D2 m2 e2]⟩, by simp, rfl, by simp, by simp, by simp, by simp, True.intro, fun _ _ => True.intro, ⟨⟨10, .data⟩, by simp, rfl, rfl⟩, fun xf wq g7 hx hblk hd => by
              have dq4 : xf 4 = .agg #[strV x.name, .bool b1, .slice A1 n1 c1, .slice D1 m1 e1, .bool b2, .slice A2 n2 c2, .slice D2 m2 e2] := hd ⟨4, .data⟩ (by simp) rfl
              dsimp only at hx hblk
              refine ⟨[strV x.name, .bool b1, .slice A1 n1 c1, .slice D1 m1 e1, .bool b2, .slice A2 n2 c2, .slice D2 m2 e2], fun w' hk => rfl, fun K hK => ?_⟩
              have hc0 : wq.cell? ⟨g7, 0, none⟩ = some (.string ⟨#[]⟩) := hblk.cell 0
              have hc1 : wq.cell? ⟨g7, 1, none⟩ = some (.bool false) := hblk.cell 1
              have hc2 : wq.cell? ⟨g7, 2, none⟩ = some (.slice none 0 0) := hblk.cell 2
              have hc3 : wq.cell? ⟨g7, 3, none⟩ = some (.slice none 0 0) := hblk.cell 3
              have hc4 : wq.cell? ⟨g7, 4, none⟩ = some (.bool false) := hblk.cell 4
              have hc5 : wq.cell? ⟨g7, 5, none⟩ = some (.slice none 0 0) := hblk.cell 5
              have hc6 : wq.cell? ⟨g7, 6, none⟩ = some (.slice none 0 0) := hblk.cell 6
              have hf0 : wq.frozen? ⟨g7, 0, none⟩ = false := hblk.frozen 0
              have hf1 : wq.frozen? ⟨g7, 1, none⟩ = false := hblk.frozen 1
              have hf2 : wq.frozen? ⟨g7, 2, none⟩ = false := hblk.frozen 2
              have hf3 : wq.frozen? ⟨g7, 3, none⟩ = false := hblk.frozen 3
              have hf4 : wq.frozen? ⟨g7, 4, none⟩ = false := hblk.frozen 4
              have hf5 : wq.frozen? ⟨g7, 5, none⟩ = false := hblk.frozen 5
              have hf6 : wq.frozen? ⟨g7, 6, none⟩ = false := hblk.frozen 6
              (try dsimp only)
              simp only [hx, dq4]
              go_simp
              have hz := hK.out undef
              simp only [hx, dq4] at hz
              exact hz⟩))
          · exact .inr (.inr (.inl ⟨⟨11, 13, 50, #[.string ⟨#[]⟩, .bool false, .slice none 0 0, .slice none 0 0, .bool false, .slice none 0 0, .slice none 0 0], fun cz _ => cz = #[strV y.name, .bool b3, .slice A3 n3 c3, .slice D3 m3 e3, .bool b4, .slice A4 n4 c4, .slice D4 m4 e4]⟩, by simp, rfl, by simp, by simp, by simp, by simp, True.intro, fun _ _ => True.intro, ⟨⟨11, .data⟩, by simp, rfl, rfl⟩, fun xf wq g7 hx hblk hd => by
              have dq9 : xf 9 = .agg #[strV y.name, .bool b3, .slice A3 n3 c3, .slice D3 m3 e3, .bool b4, .slice A4 n4 c4, .slice D4 m4 e4] := hd ⟨9, .data⟩ (by simp) rfl
              dsimp only at hx hblk
              refine ⟨[strV y.name, .bool b3, .slice A3 n3 c3, .slice D3 m3 e3, .bool b4, .slice A4 n4 c4, .slice D4 m4 e4], fun w' hk => rfl, fun K hK => ?_⟩
              have hc0 : wq.cell? ⟨g7, 0, none⟩ = some (.string ⟨#[]⟩) := hblk.cell 0
              have hc1 : wq.cell? ⟨g7, 1, none⟩ = some (.bool false) := hblk.cell 1
              have hc2 : wq.cell? ⟨g7, 2, none⟩ = some (.slice none 0 0) := hblk.cell 2
              have hc3 : wq.cell? ⟨g7, 3, none⟩ = some (.slice none 0 0) := hblk.cell 3
              have hc4 : wq.cell? ⟨g7, 4, none⟩ = some (.bool false) := hblk.cell 4
              have hc5 : wq.cell? ⟨g7, 5, none⟩ = some (.slice none 0 0) := hblk.cell 5
              have hc6 : wq.cell? ⟨g7, 6, none⟩ = some (.slice none 0 0) := hblk.cell 6
              have hf0 : wq.frozen? ⟨g7, 0, none⟩ = false := hblk.frozen 0
              have hf1 : wq.frozen? ⟨g7, 1, none⟩ = false := hblk.frozen 1
              have hf2 : wq.frozen? ⟨g7, 2, none⟩ = false := hblk.frozen 2
              have hf3 : wq.frozen? ⟨g7, 3, none⟩ = false := hblk.frozen 3
              have hf4 : wq.frozen? ⟨g7, 4, none⟩ = false := hblk.frozen 4
              have hf5 : wq.frozen? ⟨g7, 5, none⟩ = false := hblk.frozen 5
              have hf6 : wq.frozen? ⟨g7, 6, none⟩ = false := hblk.frozen 6
              (try dsimp only)
              simp only [hx, dq9]
              go_simp
              have hz := hK.out undef
              simp only [hx, dq9] at hz
              exact hz⟩))
          intro y7 w7 kq hbl lw how _ hfl hds
          obtain ⟨_, za, ez, _⟩ := how _ (List.Mem.head _)
          obtain rfl := ez (by simp)
          obtain ⟨_, zb, ez, _⟩ := how _ (List.Mem.tail _ (List.Mem.head _))
          obtain rfl := ez (by simp)
          obtain ⟨g6, _, eg6, Gg6, xg6, rfl⟩ := hfl _ (List.Mem.head _)
          obtain ⟨g7, _, eg7, Gg7, xg7, rfl⟩ := hfl _ (List.Mem.tail _ (List.Mem.head _))
          dsimp only at za zb eg6 Gg6 xg6 eg7 Gg7 xg7
          clear how hfl hds ez
          have bw7 := bwa.trans kq
          have lg6 : g6 < w7.heap.size := xg6.lt
          have lg7 : g7 < w7.heap.size := xg7.lt
          (try dsimp only)
          simp only [eg6, eg7]
          clear eg6 eg7
          obtain ⟨k0, k1, k2, k3, k4, k5, k6⟩ := xg6.c7
          obtain ⟨l0, l1, l2, l3, l4, l5, l6⟩ := xg7.c7
          by_cases hnm : x.name = y.name
          · have hnb : (x.name == y.name) = true := beq_iff_eq.2 hnm
            have HNM := Lib.hid hnm
            clear hnm
            obtain ⟨v1, hv1⟩ := bool_of (x.x = y.x)
            obtain ⟨v2, hv2⟩ := bool_of (x.y = y.y)
            have HV1 := Lib.hid hv1
            have HV2 := Lib.hid hv2
            clear hv1 hv2
            go_wp2_with fail
            (with_reducible refine (b_rat_d w7 b1 A1 n1 c1 D1 m1 e1 b3 A3 n3 c3 D3 m3 e3 x.x y.x 1000000 1000000 (HQ.out.1.belw bw7) (HQ.out.2.2.1.belw bw7) (by decide) (by decide) v1 HV1.out).mono ?_); rintro e' w8 ⟨rfl, hb8⟩
            have bw8 := bw7.trans (hb8.mono bw7.size)
            have za8 := za.below hb8 za.lt
            have zb8 := zb.below hb8 zb.lt
            have y6 := xg6.below hb8 xg6.lt
            have y7' := xg7.below hb8 xg7.lt
            clear k0 k1 k2 k3 k4 k5 k6 l0 l1 l2 l3 l4 l5 l6
            cases v1
            · have hvf : v = false := by
                cases v
                · rfl
                · exfalso
                  have := HV.out.1 rfl
                  subst this
                  have h9 := HXI.out.1.symm.trans HXI.out.2
                  injection h9 with h9
                  subst h9
                  exact absurd (HV1.out.2 rfl) (by decide)
              subst hvf
              go_wp2_with fail
              go_ret
              exact ⟨rfl, bw8⟩
            · have lg6 : g6 < w8.heap.size := y6.lt
              have lg7 : g7 < w8.heap.size := y7'.lt
              obtain ⟨k0, k1, k2, k3, k4, k5, k6⟩ := y6.c7
              obtain ⟨l0, l1, l2, l3, l4, l5, l6⟩ := y7'.c7
              go_wp2_with fail
              (with_reducible refine (b_rat_d w8 b2 A2 n2 c2 D2 m2 e2 b4 A4 n4 c4 D4 m4 e4 x.y y.y 1000000 1000000 (HQ.out.2.1.belw bw8) (HQ.out.2.2.2.belw bw8) (by decide) (by decide) v2 HV2.out).mono ?_); rintro e' w9 ⟨rfl, hb9⟩
              have bw9 := bw8.trans (hb9.mono bw8.size)
              have za9 := za8.below hb9 za8.lt
              have zb9 := zb8.below hb9 zb8.lt
              clear k0 k1 k2 k3 k4 k5 k6 l0 l1 l2 l3 l4 l5 l6
              cases v2
              · have hvf : v = false := by
                  cases v
                  · rfl
                  · exfalso
                    have := HV.out.1 rfl
                    subst this
                    have h9 := HXI.out.1.symm.trans HXI.out.2
                    injection h9 with h9
                    subst h9
                    exact absurd (HV2.out.2 rfl) (by decide)
                subst hvf
                go_wp2_with fail
                go_ret
                exact ⟨rfl, bw9⟩
              · have hxy : x = y := by
                  have e1 := HNM.out
                  have e2 := HV1.out.1 (by simp)
                  have e3 := HV2.out.1 (by simp)
                  obtain ⟨x1, x2, x3⟩ := x
                  obtain ⟨y1, y2, y3⟩ := y
                  simp only at e1 e2 e3
                  rw [e1, e2, e3]
                have HI2 : Hid (a.pts.take (i + 1) = b.pts.take (i + 1)) := Lib.hid (take_next HI.out HXI.out.1 (by rw [hxy]; exact HXI.out.2))
                clear hxy
                go_wp2_with fail
                go_roundw
                case rel => exact ⟨i + 1, by go_num, by omega, HI2, za9, zb9, bw9⟩
                case measure => simp [intOf]; omega
          · have hnb : (x.name == y.name) = false := beq_eq_false_iff_ne.2 hnm
            have hvf : v = false := by
              cases v
              · rfl
              · exfalso
                have := HV.out.1 rfl
                subst this
                have h9 := HXI.out.1.symm.trans HXI.out.2
                injection h9 with h9
                exact hnm (by rw [h9])
            subst hvf
            clear hnm
            go_wp2_with fail
            go_ret
            exact ⟨rfl, bw7⟩
        · have hi1 : ((i : Int) < (n : Int)) = False := by simp; omega
          have e2 : a.pts = b.pts := by
            have := HI.out
            rwa [List.take_of_length_le (by rw [HLA.out]; exact hge), List.take_of_length_le (by rw [HLB.out]; exact hge)] at this
          have hvt : v = true := HV.out.2 (by
            have e1 := HN.out
            obtain ⟨a1, a2⟩ := a
            obtain ⟨b1, b2⟩ := b
            simp only at e1 e2
            rw [e1, e2])
          subst hvt
          have ca1 := xa.cell 1
          clear e2
          go_wp2_with fail
          go_ret
          exact ⟨rfl, bwa⟩
    · have el2 : ((n : Int) == (n' : Int)) = false := by simp; omega
      have el3 : ¬ (n : Int) = (n' : Int) := by omega
      have hvf : v = false := by
        cases v
        · rfl
        · exfalso
          have := HV.out.1 rfl
          subst this
          exact el (H.out.1.1.symm.trans H.out.2.1)
      subst hvf
      have hs : (a.name == b.name) = true := beq_iff_eq.2 en
      clear en
      go_enter Tryz.func32, Tryz.ntmps32
      go_wp2_with fail
      go_ret
      exact ⟨rfl, ((brefl w).alloc (Nat.le_refl _) _).alloc (by simp) _⟩
  · have hs : (a.name == b.name) = false := beq_eq_false_iff_ne.2 en
    have hvf : v = false := by
      cases v
      · rfl
      · exact absurd (by rw [HV.out.1 rfl]) en
    subst hvf
    clear en
    go_enter Tryz.func32, Tryz.ntmps32
    go_wp2_with fail
    go_ret
    exact ⟨rfl, ((brefl w).alloc (Nat.le_refl _) _).alloc (by simp) _⟩
end Go.Proofs.YtckjakojllcdoaaGreatDoor

/- Walks: linkworkbase.Linkage, of any two. -/
namespace Go.Proofs.YtckjakojllcdoaaGreatDoor
open Go Go.RowKit Bn
attribute [local go_sem ↓] Go.wp_at_zero Go.wp_at_succ
theorem b_link_d (w : World) (A : Option Addr) (n c : Nat) (B : Option Addr) (p d : Nat) (C : Option Addr) (q e : Nat) (L : LinkL) (h : LkS 1000000 w A n c B p d C q e L) (A' : Option Addr) (n' c' : Nat) (B' : Option Addr) (p' d' : Nat) (C' : Option Addr) (q' e' : Nat) (M : LinkL) (h' : LkS 1000000 w A' n' c' B' p' d' C' q' e' M) (hps : ∀ b ∈ L.bodies, b.pts.length ≤ 1000) (hn : n ≤ 1000) (hp : p ≤ 1000) (hq : q ≤ 1000) (v : Bool) (hv : v = true ↔ L = M) :
    Calls Tryz.prog 16 #[.agg #[strV L.name, .slice A n c, .slice B p d, .slice C q e], .agg #[strV M.name, .slice A' n' c', .slice B' p' d', .slice C' q' e']] w (RetV w (.bool v)) := by
  have H := Lib.hid h
  have H' := Lib.hid h'
  have HV := Lib.hid hv
  have HPS := Lib.hid hps
  have HLen := Lib.hid (And.intro (And.intro h.bodies.1 h'.bodies.1) (And.intro (And.intro h.joints.1 h'.joints.1) (And.intro h.drivers.1 h'.drivers.1)))
  have hnc := h.bodies.2.1
  have hnc' := h'.bodies.2.1
  have hpd := h.joints.2.1
  have hpd' := h'.joints.2.1
  have hqe := h.drivers.2.1
  have hqe' := h'.drivers.2.1
  clear h h' hv hps
  have hno : ∀ (P : Prop), P → (L = M → ¬ P) → v = false := by
    intro P hP hne
    cases v
    · rfl
    · exact absurd hP (hne (HV.out.1 rfl))
  have HNO := Lib.hid hno
  clear hno
  have q00 : Below w.heap.size w ((w.alloc (.cells #[strV L.name, .slice A n c, .slice B p d, .slice C q e] 26)).alloc (.cells #[strV M.name, .slice A' n' c', .slice B' p' d', .slice C' q' e'] 26)) := ((brefl w).alloc (Nat.le_refl _) _).alloc (by simp) _
  by_cases en : L.name = M.name
  rotate_left
  · have hs : (L.name == M.name) = false := beq_eq_false_iff_ne.2 en
    have hvf := HNO.out _ en (fun h => by rw [h]; simp)
    subst hvf
    clear en
    go_enter Tryz.func16, Tryz.ntmps16
    go_wp2_with fail
    go_ret
    exact ⟨rfl, q00⟩
  have hs : (L.name == M.name) = true := beq_iff_eq.2 en
  have HN := Lib.hid en
  clear en
  by_cases e1 : n = n'
  rotate_left
  · have f1 : ((n : Int) == (n' : Int)) = false := by simp; omega
    have f2 : ¬ (n : Int) = (n' : Int) := by omega
    have hvf := HNO.out _ e1 (fun h => by rw [← HLen.out.1.1, ← HLen.out.1.2, h]; simp)
    subst hvf
    clear e1
    go_enter Tryz.func16, Tryz.ntmps16
    go_wp2_with fail
    go_ret
    exact ⟨rfl, q00⟩
  subst e1
  by_cases e2 : p = p'
  rotate_left
  · have f1 : ((p : Int) == (p' : Int)) = false := by simp; omega
    have f2 : ¬ (p : Int) = (p' : Int) := by omega
    have hvf := HNO.out _ e2 (fun h => by rw [← HLen.out.2.1.1, ← HLen.out.2.1.2, h]; simp)
    subst hvf
    clear e2
    go_enter Tryz.func16, Tryz.ntmps16
    go_wp2_with fail
    go_ret
    exact ⟨rfl, q00⟩
  subst e2
  by_cases e3 : q = q'
  rotate_left
  · have f1 : ((q : Int) == (q' : Int)) = false := by simp; omega
    have f2 : ¬ (q : Int) = (q' : Int) := by omega
    have hvf := HNO.out _ e3 (fun h => by rw [← HLen.out.2.2.1, ← HLen.out.2.2.2, h]; simp)
    subst hvf
    clear e3
    go_enter Tryz.func16, Tryz.ntmps16
    go_wp2_with fail
    go_ret
    exact ⟨rfl, q00⟩
  subst e3
  go_enter Tryz.func16, Tryz.ntmps16
  go_wp2_with fail
  go_loopw [5] (fun iv wr => ∃ i : Nat, iv = .int .i64 (i : Nat) ∧ i ≤ n ∧ Hid (L.bodies.take i = M.bodies.take i) ∧ Blk wr w.heap.size 26 #[strV L.name, .slice A n c, .slice B p d, .slice C q e] ∧ Blk wr (w.heap.size + 1) 26 #[strV M.name, .slice A' n c', .slice B' p d', .slice C' q e'] ∧ Below w.heap.size w wr) (fun iv _ => n - (intOf iv).toNat)
  case atStart => exact ⟨0, rfl, Nat.zero_le _, Lib.hid rfl, (blkAt w _ _ rfl).alloc _, blkAt _ _ _ (by simp), q00⟩
  case round =>
    clear q00
    obtain ⟨i, rfl, hi, HI, xa, xb, bwa⟩ := hrel
    rename World => wa
    have hla : w.heap.size < wa.heap.size := xa.lt
    have hlb : w.heap.size + 1 < wa.heap.size := xb.lt
    rcases Nat.lt_or_ge i n with hlt | hge
    · have hi1 : ((i : Int) < (n : Int)) = True := by simp; omega
      obtain ⟨g, o, x, e1, hg, _, hxi, hX⟩ := (H.out.bodies.bd bwa).at_ hlt
      subst e1
      obtain ⟨g9, o9, y, e1, hg9, _, hyi, hY⟩ := (H'.out.bodies.bd bwa).at_ hlt
      subst e1
      obtain ⟨A1, n1, c1, d0, d1, hM1, _⟩ := hX
      obtain ⟨A2, n2, c2, f0, f1, hM2, _⟩ := hY
      have hn1 : n1 ≤ 1000 := by rw [← hM1.1]; exact HPS.out x (List.mem_of_getElem? hxi)
      have HM := Lib.hid (And.intro hM1 hM2)
      have HXI := Lib.hid (And.intro hxi hyi)
      obtain ⟨v1, hv1⟩ := bool_of (x = y)
      have HV1 := Lib.hid hv1
      have ca1 := xa.cell 1
      have cb1 := xb.cell 1
      have hi2 : ((i : Int) < (n : Int)) := by omega
      clear hM1 hM2 hxi hyi hv1
      go_wp2_with fail
      go_region_held3 (fun w' => Sees wa.heap.size wa w') (first | with_reducible exact Sees.of (Nat.le_refl _) (by assumption) | with_reducible exact Sees.of (Nat.le_refl _) (brefl _).drew | exact Sees.of (Nat.le_refl _) (below_drewN (brefl _) 1) | exact Sees.of (Nat.le_refl _) (below_drewN (by assumption) _))
        (first
          | (go_at_call 32; (with_reducible refine (b_body_d _ A1 n1 c1 x ?_ A2 n2 c2 y ?_ hn1 v1 HV1.out).mono ?_); (exact HM.out.1.mk_ (by first | exact (brefl wa).drew | exact below_drewN (brefl wa) _)); (exact HM.out.2.mk_ (by first | exact (brefl wa).drew | exact below_drewN (brefl wa) _)); rintro e' w8 ⟨rfl, hb8⟩; have q8 : Below wa.heap.size wa w8 := (by first | exact bnext (brefl wa).drew hb8 | exact bnext (below_drewN (brefl wa) _) hb8)))
      have bw8 := bwa.trans (q8.mono bwa.size)
      have xa8 := xa.below q8 xa.lt
      have xb8 := xb.below q8 xb.lt
      clear ca1 cb1 d0 d1 f0 f1
      cases v1
      · have hvf := HNO.out (x ≠ y) (fun h => absurd (HV1.out.2 h) (by decide)) (fun h => by
          subst h
          have h9 := HXI.out.1.symm.trans HXI.out.2
          injection h9 with h9
          exact fun h => h h9)
        subst hvf
        go_wp2_with fail
        go_ret
        exact ⟨rfl, bw8⟩
      · have hxy : x = y := HV1.out.1 (by simp)
        have HI2 : Hid (L.bodies.take (i + 1) = M.bodies.take (i + 1)) := Lib.hid (take_next HI.out HXI.out.1 (by rw [hxy]; exact HXI.out.2))
        clear hxy
        go_wp2_with fail
        go_roundw
        case rel => exact ⟨i + 1, by go_num, by omega, HI2, xa8, xb8, bw8⟩
        case measure => simp [intOf]; omega
    · have hi1 : ((i : Int) < (n : Int)) = False := by simp; omega
      have e2 : L.bodies = M.bodies := by
        have := HI.out
        rwa [List.take_of_length_le (by rw [HLen.out.1.1]; exact hge), List.take_of_length_le (by rw [HLen.out.1.2]; exact hge)] at this
      have HB := Lib.hid e2
      have ca1 := xa.cell 1
      have ca2 := xa.cell 2
      clear e2
      go_wp2_with fail
      clear ca1 ca2
      go_loopw [6] (fun iv wr => ∃ i2 : Nat, iv = .int .i64 (i2 : Nat) ∧ i2 ≤ p ∧ Hid (L.joints.take i2 = M.joints.take i2) ∧ Blk wr w.heap.size 26 #[strV L.name, .slice A n c, .slice B p d, .slice C q e] ∧ Blk wr (w.heap.size + 1) 26 #[strV M.name, .slice A' n c', .slice B' p d', .slice C' q e'] ∧ Below w.heap.size w wr) (fun iv _ => p - (intOf iv).toNat)
      case atStart => exact ⟨0, rfl, Nat.zero_le _, Lib.hid rfl, xa, xb, bwa⟩
      case round =>
        clear xa xb bwa
        obtain ⟨i2, rfl, hii2, HI, xa, xb, bwa⟩ := hrel
        rename World => wi2
        have hla : w.heap.size < wi2.heap.size := xa.lt
        have hlb : w.heap.size + 1 < wi2.heap.size := xb.lt
        rcases Nat.lt_or_ge i2 p with hlt | hgei2
        · have hi1 : ((i2 : Int) < (p : Int)) = True := by simp; omega
          have hi3 : ((i2 : Int) < (p : Int)) := by omega
          obtain ⟨g, o, x, e1, hg, _, hxi, hX⟩ := (H.out.joints.jt bwa).at_ hlt
          subst e1
          obtain ⟨g9, o9, y, e1, hg9, _, hyi, hY⟩ := (H'.out.joints.jt bwa).at_ hlt
          subst e1
          have HXI := Lib.hid (And.intro hxi hyi)
          obtain ⟨d0, d1, d2, d3, d4, d5, d6, _⟩ := hX
          obtain ⟨f0, f1, f2, f3, f4, f5, f6, _⟩ := hY
          have ca1 := xa.cell 2
          have cb1 := xb.cell 2
          have gt1 := gt_jt
          have gt2 := gh_jt
          clear hxi hyi
          by_cases k0 : x.name = y.name
          rotate_left
          · have h0 : (x.name == y.name) = false := beq_eq_false_iff_ne.2 k0
            have t0 : ((⟨x.name.toArray⟩ : ByteArray).toList == (⟨y.name.toArray⟩ : ByteArray).toList) = false := by rw [ByteArray.toList_eq, ByteArray.toList_eq]; simpa using k0
            have hvf := HNO.out _ k0 (fun h => by
              subst h
              have h9 := HXI.out.1.symm.trans HXI.out.2
              injection h9 with h9
              rw [h9]; simp)
            subst hvf
            clear k0
            go_wp2_with fail
            go_quiet (fail)
            go_wp2_with fail
            go_ret
            exact ⟨rfl, by first | exact bwa | exact below_drewN bwa _⟩
          have h0 : (x.name == y.name) = true := beq_iff_eq.2 k0
          have t0 : ((⟨x.name.toArray⟩ : ByteArray).toList == (⟨y.name.toArray⟩ : ByteArray).toList) = true := by rw [ByteArray.toList_eq, ByteArray.toList_eq]; simpa using k0
          have K0 := Lib.hid k0
          clear k0
          by_cases k1 : x.kind = y.kind
          rotate_left
          · have h1 : (x.kind == y.kind) = false := beq_eq_false_iff_ne.2 k1
            have hvf := HNO.out _ k1 (fun h => by
              subst h
              have h9 := HXI.out.1.symm.trans HXI.out.2
              injection h9 with h9
              rw [h9]; simp)
            subst hvf
            clear k1
            go_wp2_with fail
            go_quiet (fail)
            go_wp2_with fail
            go_ret
            exact ⟨rfl, by first | exact bwa | exact below_drewN bwa _⟩
          have h1 : (x.kind == y.kind) = true := beq_iff_eq.2 k1
          have K1 := Lib.hid k1
          clear k1
          by_cases k2 : x.a = y.a
          rotate_left
          · have h2 : (x.a == y.a) = false := beq_eq_false_iff_ne.2 k2
            have hvf := HNO.out _ k2 (fun h => by
              subst h
              have h9 := HXI.out.1.symm.trans HXI.out.2
              injection h9 with h9
              rw [h9]; simp)
            subst hvf
            clear k2
            go_wp2_with fail
            go_quiet (fail)
            go_wp2_with fail
            go_ret
            exact ⟨rfl, by first | exact bwa | exact below_drewN bwa _⟩
          have h2 : (x.a == y.a) = true := beq_iff_eq.2 k2
          have K2 := Lib.hid k2
          clear k2
          by_cases k3 : x.point = y.point
          rotate_left
          · have h3 : (x.point == y.point) = false := beq_eq_false_iff_ne.2 k3
            have hvf := HNO.out _ k3 (fun h => by
              subst h
              have h9 := HXI.out.1.symm.trans HXI.out.2
              injection h9 with h9
              rw [h9]; simp)
            subst hvf
            clear k3
            go_wp2_with fail
            go_quiet (fail)
            go_wp2_with fail
            go_ret
            exact ⟨rfl, by first | exact bwa | exact below_drewN bwa _⟩
          have h3 : (x.point == y.point) = true := beq_iff_eq.2 k3
          have K3 := Lib.hid k3
          clear k3
          by_cases k4 : x.b = y.b
          rotate_left
          · have h4 : (x.b == y.b) = false := beq_eq_false_iff_ne.2 k4
            have hvf := HNO.out _ k4 (fun h => by
              subst h
              have h9 := HXI.out.1.symm.trans HXI.out.2
              injection h9 with h9
              rw [h9]; simp)
            subst hvf
            clear k4
            go_wp2_with fail
            go_quiet (fail)
            go_wp2_with fail
            go_ret
            exact ⟨rfl, by first | exact bwa | exact below_drewN bwa _⟩
          have h4 : (x.b == y.b) = true := beq_iff_eq.2 k4
          have K4 := Lib.hid k4
          clear k4
          by_cases k5 : x.on = y.on
          rotate_left
          · have h5 : (x.on == y.on) = false := beq_eq_false_iff_ne.2 k5
            have hvf := HNO.out _ k5 (fun h => by
              subst h
              have h9 := HXI.out.1.symm.trans HXI.out.2
              injection h9 with h9
              rw [h9]; simp)
            subst hvf
            clear k5
            go_wp2_with fail
            go_quiet (fail)
            go_wp2_with fail
            go_ret
            exact ⟨rfl, by first | exact bwa | exact below_drewN bwa _⟩
          have h5 : (x.on == y.on) = true := beq_iff_eq.2 k5
          have K5 := Lib.hid k5
          clear k5
          by_cases k6 : x.to_ = y.to_
          rotate_left
          · have h6 : (x.to_ == y.to_) = false := beq_eq_false_iff_ne.2 k6
            have hvf := HNO.out _ k6 (fun h => by
              subst h
              have h9 := HXI.out.1.symm.trans HXI.out.2
              injection h9 with h9
              rw [h9]; simp)
            subst hvf
            clear k6
            go_wp2_with fail
            go_quiet (fail)
            go_wp2_with fail
            go_ret
            exact ⟨rfl, by first | exact bwa | exact below_drewN bwa _⟩
          have h6 : (x.to_ == y.to_) = true := beq_iff_eq.2 k6
          have K6 := Lib.hid k6
          clear k6
          have hxy : x = y := by
            have q0 := K0.out
            have q1 := K1.out
            have q2 := K2.out
            have q3 := K3.out
            have q4 := K4.out
            have q5 := K5.out
            have q6 := K6.out
            obtain ⟨x0, x1, x2, x3, x4, x5, x6⟩ := x
            obtain ⟨y0, y1, y2, y3, y4, y5, y6⟩ := y
            simp only at q0 q1 q2 q3 q4 q5 q6
            rw [q0, q1, q2, q3, q4, q5, q6]
          have HI2 : Hid (L.joints.take (i2 + 1) = M.joints.take (i2 + 1)) := Lib.hid (take_next HI.out HXI.out.1 (by rw [hxy]; exact HXI.out.2))
          clear hxy
          go_wp2_with fail
          go_quiet (fail)
          go_wp2_with fail
          go_roundw
          case rel => first | exact ⟨i2 + 1, by go_num, by omega, HI2, xa, xb, bwa⟩ | exact ⟨i2 + 1, by go_num, by omega, HI2, xa.drewN _, xb.drewN _, below_drewN bwa _⟩
          case measure => simp [intOf]; omega
        · have hi1 : ((i2 : Int) < (p : Int)) = False := by simp; omega
          have e2 : L.joints = M.joints := by
            have := HI.out
            rwa [List.take_of_length_le (by rw [HLen.out.2.1.1]; exact hgei2), List.take_of_length_le (by rw [HLen.out.2.1.2]; exact hgei2)] at this
          have Hjt := Lib.hid e2
          have ca1 := xa.cell 2
          clear e2
          go_wp2_with fail
          clear ca1
          go_loopw [7] (fun iv wr => ∃ i3 : Nat, iv = .int .i64 (i3 : Nat) ∧ i3 ≤ q ∧ Hid (L.drivers.take i3 = M.drivers.take i3) ∧ Blk wr w.heap.size 26 #[strV L.name, .slice A n c, .slice B p d, .slice C q e] ∧ Blk wr (w.heap.size + 1) 26 #[strV M.name, .slice A' n c', .slice B' p d', .slice C' q e'] ∧ Below w.heap.size w wr) (fun iv _ => q - (intOf iv).toNat)
          case atStart => exact ⟨0, rfl, Nat.zero_le _, Lib.hid rfl, xa, xb, bwa⟩
          case round =>
            clear xa xb bwa
            obtain ⟨i3, rfl, hii3, HI, xa, xb, bwa⟩ := hrel
            rename World => wi3
            have hla : w.heap.size < wi3.heap.size := xa.lt
            have hlb : w.heap.size + 1 < wi3.heap.size := xb.lt
            rcases Nat.lt_or_ge i3 q with hlt | hgei3
            · have hi1 : ((i3 : Int) < (q : Int)) = True := by simp; omega
              have hi3 : ((i3 : Int) < (q : Int)) := by omega
              obtain ⟨g, o, x, e1, hg, _, hxi, hX⟩ := (H.out.drivers.dr bwa).at_ hlt
              subst e1
              obtain ⟨g9, o9, y, e1, hg9, _, hyi, hY⟩ := (H'.out.drivers.dr bwa).at_ hlt
              subst e1
              have HXI := Lib.hid (And.intro hxi hyi)
              obtain ⟨d0, d1, _⟩ := hX
              obtain ⟨f0, f1, _⟩ := hY
              have ca1 := xa.cell 3
              have cb1 := xb.cell 3
              have gt1 := gt_dr
              have gt2 := gh_dr
              clear hxi hyi
              by_cases k0 : x.name = y.name
              rotate_left
              · have h0 : (x.name == y.name) = false := beq_eq_false_iff_ne.2 k0
                have t0 : ((⟨x.name.toArray⟩ : ByteArray).toList == (⟨y.name.toArray⟩ : ByteArray).toList) = false := by rw [ByteArray.toList_eq, ByteArray.toList_eq]; simpa using k0
                have hvf := HNO.out _ k0 (fun h => by
                  subst h
                  have h9 := HXI.out.1.symm.trans HXI.out.2
                  injection h9 with h9
                  rw [h9]; simp)
                subst hvf
                clear k0
                go_wp2_with fail
                go_quiet (fail)
                go_wp2_with fail
                go_ret
                exact ⟨rfl, by first | exact bwa | exact below_drewN bwa _⟩
              have h0 : (x.name == y.name) = true := beq_iff_eq.2 k0
              have t0 : ((⟨x.name.toArray⟩ : ByteArray).toList == (⟨y.name.toArray⟩ : ByteArray).toList) = true := by rw [ByteArray.toList_eq, ByteArray.toList_eq]; simpa using k0
              have K0 := Lib.hid k0
              clear k0
              by_cases k1 : x.body = y.body
              rotate_left
              · have h1 : (x.body == y.body) = false := beq_eq_false_iff_ne.2 k1
                have hvf := HNO.out _ k1 (fun h => by
                  subst h
                  have h9 := HXI.out.1.symm.trans HXI.out.2
                  injection h9 with h9
                  rw [h9]; simp)
                subst hvf
                clear k1
                go_wp2_with fail
                go_quiet (fail)
                go_wp2_with fail
                go_ret
                exact ⟨rfl, by first | exact bwa | exact below_drewN bwa _⟩
              have h1 : (x.body == y.body) = true := beq_iff_eq.2 k1
              have K1 := Lib.hid k1
              clear k1
              have hxy : x = y := by
                have q0 := K0.out
                have q1 := K1.out
                obtain ⟨x0, x1⟩ := x
                obtain ⟨y0, y1⟩ := y
                simp only at q0 q1
                rw [q0, q1]
              have HI2 : Hid (L.drivers.take (i3 + 1) = M.drivers.take (i3 + 1)) := Lib.hid (take_next HI.out HXI.out.1 (by rw [hxy]; exact HXI.out.2))
              clear hxy
              go_wp2_with fail
              go_quiet (fail)
              go_wp2_with fail
              go_roundw
              case rel => first | exact ⟨i3 + 1, by go_num, by omega, HI2, xa, xb, bwa⟩ | exact ⟨i3 + 1, by go_num, by omega, HI2, xa.drewN _, xb.drewN _, below_drewN bwa _⟩
              case measure => simp [intOf]; omega
            · have hi1 : ((i3 : Int) < (q : Int)) = False := by simp; omega
              have e2 : L.drivers = M.drivers := by
                have := HI.out
                rwa [List.take_of_length_le (by rw [HLen.out.2.2.1]; exact hgei3), List.take_of_length_le (by rw [HLen.out.2.2.2]; exact hgei3)] at this
              have Hdr := Lib.hid e2
              have ca1 := xa.cell 3
              clear e2
              have hvt : v = true := HV.out.2 (by
                have q0 := HN.out
                have q1 := HB.out
                have q2 := Hjt.out
                have q3 := Hdr.out
                obtain ⟨a1, a2, a3, a4⟩ := L
                obtain ⟨b1, b2, b3, b4⟩ := M
                simp only at q0 q1 q2 q3
                rw [q0, q1, q2, q3])
              subst hvt
              go_wp2_with fail
              go_ret
              exact ⟨rfl, bwa⟩
end Go.Proofs.YtckjakojllcdoaaGreatDoor

/- Walks: the Print laws: PrintDiffers. -/
namespace Go.Proofs.YtckjakojllcdoaaGreatDoor
open Go Go.RowKit Bn
attribute [local go_sem ↓] Go.wp_at_zero Go.wp_at_succ
theorem LkS.mono40 {w : World} {A B C : Option Addr} {n c p d q e : Nat} {L : LinkL} (h : LkS 40 w A n c B p d C q e L) : LkS 1000000 w A n c B p d C q e L := by
  have hr : ∀ g o r, RatAt w g o r 40 → RatAt w g o r 1000000 := fun g o r ⟨b, A, n, c, D, m, e, h1, h2, h3, h4⟩ => ⟨b, A, n, c, D, m, e, h1, h2, h3, h4.1, h4.2.1, h4.2.2.1, Nat.le_trans h4.2.2.2.1 (by decide), Nat.le_trans h4.2.2.2.2 (by decide)⟩
  refine ⟨h.name, h.bodies.mono_ fun g o b _ hp => ?_, h.joints, h.drivers⟩
  obtain ⟨A', n', c', c0, c1, hM, hn⟩ := hp
  exact ⟨A', n', c', c0, c1, hM.mono_ fun g o m _ hm => ⟨hm.1, hr _ _ _ hm.2.1, hr _ _ _ hm.2.2.1, hm.2.2.2⟩, hn⟩
theorem out_ok {L : LinkL} (h : outErr L = 0) : lkErr L = 0 ∧ outText L = lkText L := by
  refine ⟨?_, if_pos h⟩
  unfold outErr at h
  split at h
  · exact h
  · rename_i h0; simpa using h0
theorem l_PrintDiffers (w : World) (A : Option Addr) (n c : Nat) (B : Option Addr) (p d : Nat) (C : Option Addr) (q e : Nat) (L : LinkL) (h : LkS reachBytes w A n c B p d C q e L) (A' : Option Addr) (n' c' : Nat) (B' : Option Addr) (p' d' : Nat) (C' : Option Addr) (q' e' : Nat) (M : LinkL) (h' : LkS reachBytes w A' n' c' B' p' d' C' q' e' M) (htab : Tab w) : Calls Tryz.prog 5 #[.agg #[strV L.name, .slice A n c, .slice B p d, .slice C q e], .agg #[strV M.name, .slice A' n' c', .slice B' p' d', .slice C' q' e']] w (RetV w (.bool true)) := by
 have H := Lib.hid h
 have H' := Lib.hid h'
 have HTab := Lib.hid htab
 obtain ⟨v, hv⟩ : ∃ v, lgL L = v := ⟨_, rfl⟩
 have HV := Lib.hid hv
 obtain ⟨v', hv'⟩ : ∃ v, lgL M = v := ⟨_, rfl⟩
 have HV' := Lib.hid hv'
 clear h h' htab hv hv'
 go_enter Tryz.func5, Tryz.ntmps5
 go_wp2_with fail
 have q0 : Below w.heap.size w ((w.alloc (.cells #[strV L.name, .slice A n c, .slice B p d, .slice C q e] 26)).alloc (.cells #[strV M.name, .slice A' n' c', .slice B' p' d', .slice C' q' e'] 26)) := ((brefl w).alloc (Nat.le_refl _) _).alloc (by simp) _
 have x0 : Blk ((w.alloc (.cells #[strV L.name, .slice A n c, .slice B p d, .slice C q e] 26)).alloc (.cells #[strV M.name, .slice A' n' c', .slice B' p' d', .slice C' q' e'] 26)) w.heap.size 26 #[strV L.name, .slice A n c, .slice B p d, .slice C q e] := (blkAt w _ _ rfl).alloc _
 have y0 : Blk ((w.alloc (.cells #[strV L.name, .slice A n c, .slice B p d, .slice C q e] 26)).alloc (.cells #[strV M.name, .slice A' n' c', .slice B' p' d', .slice C' q' e'] 26)) (w.heap.size + 1) 26 #[strV M.name, .slice A' n' c', .slice B' p' d', .slice C' q' e'] := blkAt _ _ _ (by simp)
 generalize ((w.alloc (.cells #[strV L.name, .slice A n c, .slice B p d, .slice C q e] 26)).alloc (.cells #[strV M.name, .slice A' n' c', .slice B' p' d', .slice C' q' e'] 26)) = w0 at q0 x0 y0 ⊢
 (with_reducible refine (l21_awake w0 (HTab.out.belw q0)).mono ?_); rintro e1 w1 ⟨rfl, hb1⟩
 have q1 := q0.trans (hb1.mono q0.size)
 have x1 := x0.below hb1 x0.lt
 have y1 := y0.below hb1 y0.lt
 have hl1 : w.heap.size < w1.heap.size := x1.lt
 have hm1 : w.heap.size + 1 < w1.heap.size := y1.lt
 obtain ⟨c0, c1, c2, c3⟩ := x1.c4
 clear x0 y0 q0 hb1
 go_wp2_with fail
 (with_reducible refine (l_large w1 A n c B p d C q e L (H.out.belw q1) v HV.out).mono ?_); rintro e1 w2 ⟨rfl, hb2⟩
 have q2 := q1.trans (hb2.mono q1.size)
 have x2 := x1.below hb2 x1.lt
 have y2 := y1.below hb2 y1.lt
 have hl2 : w.heap.size < w2.heap.size := x2.lt
 have hm2 : w.heap.size + 1 < w2.heap.size := y2.lt
 clear c0 c1 c2 c3 x1 y1 q1 hb2
 cases v
 rotate_left
 ·go_wp2_with fail
  (with_reducible refine (l21_awake w2 (HTab.out.belw q2)).mono ?_); rintro e1 w3 ⟨rfl, hb3⟩
  have q3 := q2.trans (hb3.mono q2.size)
  go_wp2_with fail
  go_ret
  exact ⟨rfl, q3⟩
 obtain ⟨c0, c1, c2, c3⟩ := y2.c4
 go_wp2_with fail
 (with_reducible refine (l_large w2 A' n' c' B' p' d' C' q' e' M (H'.out.belw q2) v' HV'.out).mono ?_); rintro e1 w3 ⟨rfl, hb3⟩
 have q3 := q2.trans (hb3.mono q2.size)
 have x3 := x2.below hb3 x2.lt
 have y3 := y2.below hb3 y2.lt
 have hl3 : w.heap.size < w3.heap.size := x3.lt
 have hm3 : w.heap.size + 1 < w3.heap.size := y3.lt
 clear c0 c1 c2 c3 x2 y2 q2 hb3
 cases v'
 rotate_left
 ·go_wp2_with fail
  (with_reducible refine (l21_awake w3 (HTab.out.belw q3)).mono ?_); rintro e1 w4 ⟨rfl, hb4⟩
  have q4 := q3.trans (hb4.mono q3.size)
  go_wp2_with fail
  go_ret
  exact ⟨rfl, q4⟩
 have H40 := Lib.hid ((H.out.belw q3).of40 HV.out)
 have H40' := Lib.hid ((H'.out.belw q3).of40 HV'.out)
 obtain ⟨c0, c1, c2, c3⟩ := x3.c4
 go_wp2_with fail
 (with_reducible refine (p_lk w3 A n c B p d C q e L H40.out (HTab.out.belw q3)).mono ?_); rintro e1 w4 ⟨rfl, hb4⟩
 have q4 := q3.trans (hb4.mono q3.size)
 have x4 := x3.below hb4 x3.lt
 have y4 := y3.below hb4 y3.lt
 have hl4 : w.heap.size < w4.heap.size := x4.lt
 have hm4 : w.heap.size + 1 < w4.heap.size := y4.lt
 have K4 := Lib.hid (H40.out.belw hb4)
 have K4' := Lib.hid (H40'.out.belw hb4)
 clear c0 c1 c2 c3 hb4 x3 y3 H40 H40'
 obtain ⟨c0, c1, c2, c3⟩ := y4.c4
 go_wp2_with fail
 (with_reducible refine (p_lk w4 A' n' c' B' p' d' C' q' e' M K4'.out (HTab.out.belw q4)).mono ?_); rintro e1 w5 ⟨rfl, hb5⟩
 have q5 := q4.trans (hb5.mono q4.size)
 have x5 := x4.below hb5 x4.lt
 have y5 := y4.below hb5 y4.lt
 have hl5 : w.heap.size < w5.heap.size := x5.lt
 have hm5 : w.heap.size + 1 < w5.heap.size := y5.lt
 have K5 := Lib.hid (K4.out.belw hb5)
 have K5' := Lib.hid (K4'.out.belw hb5)
 clear c0 c1 c2 c3 hb5 x4 y4 K4 K4'
 by_cases hE : outErr L = 0
 rotate_left
 ·rw [eVp hE]
  clear hE
  go_wp2_with fail
  go_ret
  exact ⟨rfl, q5⟩
 by_cases hE' : outErr M = 0
 rotate_left
 ·rw [eVp hE', show errV (outErr L) = .nilIface from if_pos hE]
  clear hE hE'
  go_wp2_with fail
  go_ret
  exact ⟨rfl, q5⟩
 obtain ⟨k1, k2⟩ := out_ok hE
 obtain ⟨k1', k2'⟩ := out_ok hE'
 rw [show errV (outErr L) = .nilIface from if_pos hE, show errV (outErr M) = .nilIface from if_pos hE', k2, k2']
 have hF := lkErr_full k1
 have hF' := lkErr_full k1'
 obtain ⟨u, hu⟩ := bool_of (L = M)
 have hps : ∀ b ∈ L.bodies, b.pts.length ≤ 1000 := fun b hb => by have := (hF.ok.body b hb).2.1; omega
 have hn := hF.ok.nb
 have hp := hF.ok.nj
 have hq := hF.ok.nd
 rw [H.out.bodies.1] at hn
 rw [H.out.joints.1] at hp
 rw [H.out.drivers.1] at hq
 have HU := Lib.hid hu
 have HPS := Lib.hid hps
 have hst : (lkText L == lkText M) = u := by
  cases u
  ·rw [beq_eq_false_iff_ne]
   intro ht
   exact absurd (hu.2 (text_inj hF hF' H.out.words H'.out.words ht)) (by decide)
  ·rw [beq_iff_eq, hu.1 rfl]
 obtain ⟨T, hT⟩ : ∃ T, lkText L = T := ⟨_, rfl⟩
 obtain ⟨T', hT'⟩ : ∃ T, lkText M = T := ⟨_, rfl⟩
 rw [hT, hT'] at hst
 rw [hT, hT']
 clear hE hE' k1 k2 k1' k2' hF hF' hu hps hT hT'
 obtain ⟨c0, c1, c2, c3⟩ := x5.c4
 obtain ⟨d0, d1, d2, d3⟩ := y5.c4
 go_wp2_with fail
 (with_reducible refine (b_link_d w5 A n c B p d C q e L K5.out.mono40 A' n' c' B' p' d' C' q' e' M K5'.out.mono40 HPS.out (by omega) (by omega) (by omega) u HU.out).mono ?_); rintro e1 w6 ⟨rfl, hb6⟩
 have q6 := q5.trans (hb6.mono q5.size)
 clear c0 c1 c2 c3 d0 d1 d2 d3
 cases u
 all_goals
  go_wp2_with fail
  go_ret
  exact ⟨rfl, q6⟩
end Go.Proofs.YtckjakojllcdoaaGreatDoor

/- PrintDiffers: linkages have the same text exactly if they are equal; for every input the law returns true. The listed library variables are tied to the program text. -/
namespace Go.Proofs.YtckjakojllcdoaaGreatDoor
open Go Go.RowKit Bn Go.ChangeShapes Go.WideShapes Go.ChangeAt
theorem differs_contract (H : Type) (enc : TypeId × Value → H) (W : World) (base : Nat) (args : Array Value) (ds gs : List (DataW H)) (before : List MemPlace)
    (hval0 : ∀ (j : Nat) t v, Tryz.f5.params[j]? = some t → args[j]? = some v → Value.okWide Tryz.prog W .any base t v)
    (hW : DataW.Whole enc Tryz.prog Tryz.f5.params.toList Rows.printDiffersSpec.vars false W args.toList ds gs before) (hL : laidMetH Tryz.prog Rows.printDiffersRow.laid W) (hwt : (DataW.weightsEach Tryz.prog (Tryz.f5.params.toList ++ (OpenSpec.ofChange Rows.printDiffersSpec).bare.plain.varTypes Tryz.prog) (ds ++ gs)).all (· ≤ reachBytes) = true) :
    Calls Tryz.prog 5 args W fun e W' => ∃ v, e = .returned v ∧ Rows.printDiffersSpec.post enc Tryz.prog Tryz.f5 false true false false W args v W' := by
  have hval : ∀ (j : Nat) t v, Tryz.f5.params[j]? = some t → args[j]? = some v → Value.okWide Tryz.prog W .any base t v := hval0
  have htab : Tab W := tab_of_laid hL
  have hW' := hW
  obtain ⟨p, q, hA0, hV, rfl, hfz, hnd⟩ := hW
  have hA : DataW.TrodAll enc Tryz.prog W 0 (fun _ => true) true Tryz.f5.params.toList args.toList ds p := hA0
  rw [Tryz.params5] at hA hval
  obtain ⟨v0, v1, d0, d1, p0, p1, rfl, rfl, rfl, h0, h1⟩ := trodAll_two hA
  obtain ⟨rfl, rfl⟩ := trodVars_none hV
  obtain ⟨A, n, c, B, p, d, C, q, e, L, rfl, H⟩ := link_open (hval 0 _ v0 rfl rfl) h0 (szd_of hwt (j := 0) rfl rfl)
  obtain ⟨A', n', c', B', p', d', C', q', e', L', rfl, H'⟩ := link_open (hval 1 _ v1 rfl rfl) h1 (szd_of hwt (j := 1) rfl rfl)
  refine (l_PrintDiffers W A n c B p d C q e L H A' n' c' B' p' d' C' q' e' L' H' htab).mono fun e W' ⟨he, hb⟩ => ?_
  subst he
  exact ⟨_, rfl, law_post laid_out Tryz.underlying4 hW' rfl rfl (by kernel_rfl) rfl rfl rfl hb⟩
theorem differs_lifted (os : Os) (started : os.Started) (H : Type) (enc : TypeId × Value → H) (F : Stop.Interp) :
    ReturnsInHanded {} Tryz.checked os 5 .any ((OpenSpec.ofChange Rows.printDiffersSpec).preRow enc Tryz.prog Tryz.f5 Rows.printDiffersRow.domain false Rows.printDiffersRow.laid) (((OpenSpec.ofChange Rows.printDiffersSpec).at F).post enc Tryz.prog Tryz.f5 false true false false) := by
  have hx : DataW.whole enc Tryz.prog ((laidWorld os).forCall (fun _ _ => 0) ⟨#[], #[.agg #[.string ⟨#[]⟩, .slice none 0 0, .slice none 0 0, .slice none 0 0], .agg #[.string ⟨#[]⟩, .slice none 0 0, .slice none 0 0, .slice none 0 0]], []⟩).memory Tryz.f5.params.toList Rows.printDiffersSpec.vars false (#[.agg #[.string ⟨#[]⟩, .slice none 0 0, .slice none 0 0, .slice none 0 0], .agg #[.string ⟨#[]⟩, .slice none 0 0, .slice none 0 0, .slice none 0 0]] : Array Value).toList 8 = some ([.agg [.lit (.string []), .nil, .nil, .nil], .agg [.lit (.string []), .nil, .nil, .nil]], [], []) := by kernel_rfl
  have hl : laidMet Tryz.prog Rows.printDiffersRow.laid ((laidWorld os).forCall (fun _ _ => 0) ⟨#[], #[.agg #[.string ⟨#[]⟩, .slice none 0 0, .slice none 0 0, .slice none 0 0], .agg #[.string ⟨#[]⟩, .slice none 0 0, .slice none 0 0, .slice none 0 0]], []⟩).memory := laidMet_of_run' 8 (by kernel_rfl) (by kernel_rfl)
  refine returnsInHanded_of_row (C := Tryz.checked) (s := OpenSpec.ofChange Rows.printDiffersSpec) own_knob started (by kernel_rfl) Tryz.func5
    (witness_row_at (enc := enc) (C := Tryz.checked) false (laidWorld os) #[.agg #[.string ⟨#[]⟩, .slice none 0 0, .slice none 0 0, .slice none 0 0], .agg #[.string ⟨#[]⟩, .slice none 0 0, .slice none 0 0, .slice none 0 0]] rfl (by kernel_rfl) (by kernel_rfl) (by kernel_rfl)
      (OpenSpec.preRow_of_cond 8 hx (by kernel_rfl) (fun k hk => by cases hk) (by kernel_rfl) hl)) ?_
  intro W base args ds gs before hval hW _ _ hwt hL hsh _
  exact differs_contract H enc W base args ds gs before hval hW hL hwt
theorem differs_j2 : (Rows.printDiffersRow.inPlace == Tryz.pinned.checked.prog.inPlace 5) = true := by kernel_rfl
theorem differs_j3 : (Rows.printDiffersRow.unfollowed == Tryz.pinned.checked.prog.unfollowed 5) = true := by kernel_rfl
theorem differs_j4 : (Rows.printDiffersRow.recurses == Tryz.pinned.checked.prog.recurses 5) = true := by kernel_rfl
theorem differs_j5 : (Rows.printDiffersRow.named == Tryz.pinned.checked.prog.varsNamed 5) = true := by kernel_rfl
theorem differs_joined : joinedFacts Tryz.pinned.checked.prog 5 Tryz.f5 (OpenSpec.ofChange Rows.printDiffersSpec).bare Rows.printDiffersRow = true := joined_parts (by kernel_rfl) differs_j2 differs_j3 differs_j4 differs_j5 (by kernel_rfl)
theorem differs_inst : Tryz.f5.isInstance Tryz.pinned.checked.prog Rows.printDiffersRow.origin Rows.printDiffersRow.targs := of_decide_eq_true (by kernel_rfl)
theorem differs_said : Rows.PrintDiffersSaid :=
  OpenClaim.holds_of_cond 5 Tryz.f5 rfl rfl rfl rfl rfl rfl rfl ⟨rfl, rfl, rfl, rfl, rfl⟩ rfl rfl rfl rfl rfl (by kernel_rfl) Tryz.func5 differs_joined
    differs_inst (by unfold Func.isWrapper; first | (rw [if_pos (by decide +kernel)]; kernel_rfl) | (rw [if_neg (by decide +kernel)]; exact ⟨rfl, rfl⟩))
    (fun os started H enc _ F => by rw [OpenClaim.pre_eq_preRow]; exact differs_lifted os started H enc F)
theorem differs_plain (f : FuncId) (fn : Func) (hf : Tryz.pinned.checked.prog.funcNamed "linkwork/linkworklaw21.PrintDiffers" = some f) (hfn : Tryz.pinned.checked.prog.funcs[f]? = some fn) :
    true = Tryz.pinned.checked.prog.looks [] ∧ ∀ (j : Nat) t, fn.params[j]? = some t → Tryz.pinned.checked.prog.wantsStandIn t = false := by
  obtain rfl : f = 5 := Option.some.inj ((show Tryz.prog.funcNamed "linkwork/linkworklaw21.PrintDiffers" = some 5 by kernel_rfl).symm.trans hf) |>.symm
  obtain rfl : fn = Tryz.f5 := (Option.some.inj (Tryz.func5.symm.trans hfn)).symm
  refine ⟨by kernel_rfl, fun j t ht => ?_⟩
  rw [Tryz.params5] at ht
  have hm : t ∈ [26] := by
    have := Array.mem_of_getElem? ht
    simp at this ⊢
    first
      | exact this
      | exact .inl this
  have hall : ([26].all fun u => !Tryz.prog.wantsStandIn u) = true := by kernel_rfl
  exact (show Tryz.prog.wantsStandIn t = false by simpa using List.all_eq_true.1 hall t hm)
theorem differs_holds : Rows.PrintDiffersCardSaid :=
  Claim7.holds_tied_plain_at .later [] _ _ _ _ differs_said (fun _ h => by cases h) (by kernel_rfl) (fun _ h => by cases h) printDiffers_row_tie rfl ⟨rfl, rfl⟩ (by kernel_rfl) rfl differs_plain (by kernel_rfl)
end Go.Proofs.YtckjakojllcdoaaGreatDoor
