/- TokenComments: comments and blanks between tokens do not matter; for every input the law returns true. The listed library variables are tied to the program text. -/
import Derived.Below
import Derived.Laws.OwnMore
import Derived.Deep.Draws
import Derived.OneCell
import Derived.Laws.Rows
import Derived.Test.YtfbigmdpdcpkfaaGreatDoorProg
import Derived.WalkKit
import Derived.WalkSpells
import Derived.WalkLawsBesides
import Derived.BigQuiet
import Derived.Deep.QuietTactic
import Derived.Deep.AppendLies
import Derived.Lib.Hide
import Derived.Deep.RegionHeld3
import Derived.Deep.DrawnRows
import Derived.Shelf.Strings.Builder1
import Derived.Shelf.Strings.Builder2
import Derived.Shelf.Strings.OnBuilder
import Derived.Shelf.Strings.Trim
import Derived.Shelf.Small.Utf8
import Derived.Shelf.Small.Bits
import Derived.Shelf.Small.Strs
import Derived.Shelf.Small.Wraps
import Derived.Shelf.Strings.BuilderF
import Derived.Shelf.Strconv.Atoi
import Derived.Shelf.Strconv.Itoa0
import Derived.Shelf.Strconv.Itoa1
import Derived.Shelf.LaysM
import Derived.Shelf.Strconv.Itoa2
import Derived.Shelf.Strconv.Itoa3
import Derived.Shelf.Strings.Search1
import Derived.Shelf.Strings.Search2
import Derived.Shelf.Strings.Cut
import Derived.Shelf.Strings.Shaped
import Derived.Shelf.Strings.Prefix
import Derived.Shelf.Strings.Runes
import Derived.Shelf.Strings.AsciiSet
import Derived.Shelf.Bits.Mul64
import Derived.Shelf.Strings.Repeat
import Derived.Shelf.Unicode.DecodeSlow
import Derived.IntWalk
import Derived.Deep.DeepCutAuto
import Derived.Deep.RegionHeld
import Derived.Lib.ItoaNum
import Derived.Lib.ItoaMem
import Derived.Lib.Repeat
import Derived.Lib.Join
import Derived.Lib.Atoi
import Derived.Lib.SlTrimSet
import Derived.Lib.AppendIntMem
import Derived.Shelf.Strings.SlTrimAscii
import Derived.Lib.IndexMore
import Derived.Test.YtfbigmdpdcpkfaaGreatDoorCards
import Derived.Test.YtfbigmdpdcpkfaaGreatDoorTie
import Derived.ProofKit
import Derived.OpenShut
import Derived.Deep.DeepHandedRow
import Derived.Lib.LaidTab
import Derived.Shelf.Vars
import Derived.ChangeMaps5
import Derived.Test.YtfbigmdpdcpkfaaGreatDoorA3
set_option linter.unusedVariables false
set_option maxHeartbeats 8000000
set_option maxRecDepth 100000
namespace Bn
theorem first_again {r : List UInt8} {k n : Nat} (h : firstT r = .ok k n) {e : List UInt8} (he : SepE e) : firstT (r.take n ++ e) = .ok k n := by
  unfold firstT at h
  split at h
  · cases h
  · rename_i c t
    split at h
    · rename_i hs
      injection h with h1 h2; subst h1; subst h2
      show firstT (c :: e) = _
      unfold firstT
      simp only [hs, if_true]
    · rename_i hs
      split at h
      · rename_i hw
        split at h
        · cases h
        · rename_i h24
          injection h with h1 h2; subst h1
          have hl : isLet c = true := by
            rw [wordN] at hw; split at hw
            · assumption
            · omega
          have hwn : wordN (c :: t) = 1 + (t.takeWhile isPart).length := by rw [wordN, hl, if_pos rfl]
          obtain ⟨d, e1, _⟩ := tw_split isPart t
          have ht : (c :: t).take n = c :: t.takeWhile isPart := by
            rw [← h2, hwn, Nat.add_comm, List.take_succ_cons]
            congr 1
            exact (congrArg (List.take _) e1).trans List.take_left
          have hw2 : wordN (c :: (t.takeWhile isPart ++ e)) = n := by
            rw [wordN, hl, if_pos rfl, tw_app e (tw_all t) (fun c t h => (sepB_not (he.np c t h)).1), ← hwn, h2]
          rw [ht, List.cons_append]
          unfold firstT
          simp only [hs, hw2]
          rw [h2] at hw h24
          simp [hw, h24]
      · rename_i hw
        split at h
        · cases h
        · rename_i hn0
          split at h
          · cases h
          · rename_i h60
            split at h
            · cases h
            · injection h with h1 h2; subst h1
              obtain ⟨P, d, x, P', e1, e2, e3, e4, _, e5⟩ := num_form (Nat.pos_of_ne_zero hn0)
              have hP : (c :: t).take n = P := by rw [← h2, ← e2, e1]; exact List.take_left
              have hxc : x = c := by rw [e3, List.cons_append] at e1; injection e1 with h _; exact h.symm
              subst hxc
              have hsx : isSgn x = false := by simpa using hs
              have hlx : isLet x = false := by
                rcases e4 with h | h
                · unfold isDg at h; unfold isLet; simp at h ⊢; omega
                · subst h; decide
              rw [hP]
              have h7 := e5 e he
              have h8 : wordN (P ++ e) = 0 := by rw [e3, List.cons_append, wordN, hlx]; rfl
              have h9 : badEnd ((P ++ e).drop P.length) = false := by
                rw [List.drop_left]
                cases e with
                | nil => rfl
                | cons a b => have := sepB_not (he.np a b rfl); simp [badEnd, this.2.2.1, this.2.2.2.1, this.2.2.2.2.1, this.2.2.2.2.2]
              have hPn : P.length = n := by rw [e2, h2]
              have hform : firstT (P ++ e) = (if isSgn x then .ok 2 1 else if 0 < wordN (P ++ e) then (if 24 < wordN (P ++ e) then .err 5 else .ok 0 (wordN (P ++ e))) else if numN (P ++ e) = 0 then .err 2 else if 60 < numN (P ++ e) then .err 4 else if badEnd ((P ++ e).drop (numN (P ++ e))) then .err 2 else .ok 1 (numN (P ++ e))) := by
                rw [e3, List.cons_append]; rfl
              rw [hform, h8, h7, h9, hsx, hPn]
              rw [h2] at hn0 h60
              simp [hn0, h60]
end Bn

namespace Bn
theorem Skip.blank {c : UInt8} {s : List UInt8} (hc : isBlk c = true) (h : Skip s) : Skip (c :: s) := fun rest line col => by
  obtain ⟨a, b, e⟩ := h rest line (col + 1)
  exact ⟨a, b, by rw [List.cons_append, tk_blank hc, e]⟩
theorem Skip.com {s u : List UInt8} (hu : 10 ∉ u) (h : Skip s) : Skip (37 :: (u ++ 10 :: s)) := fun rest line col => by
  obtain ⟨a, b, e⟩ := h rest (line + 1) 1
  refine ⟨a, b, ?_⟩
  have hc : comN (37 :: (u ++ 10 :: (s ++ rest))) = u.length + 1 := by
    unfold comN
    have h1 : (37 :: u).all (fun c => c != 10) = true := by
      rw [List.all_eq_true]; intro x hx
      rcases List.mem_cons.1 hx with e | e
      · subst e; decide
      · simp; rintro rfl; exact hu e
    have := tw_app (p := fun c => c != 10) (a := 37 :: u) (10 :: (s ++ rest)) h1 (fun c t h => by injection h with h _; subst h; rfl)
    rw [← List.cons_append, this, List.length_cons]
  have e1 : (37 :: (u ++ 10 :: s)) ++ rest = 37 :: (u ++ 10 :: (s ++ rest)) := by simp
  rw [e1, tk_com, hc, List.drop_succ_cons, List.drop_left, tk_line, e]
def shape : Toks → Option (List (Nat × List UInt8))
  | .ok l => some (l.map fun t => (t.kind, t.text))
  | .err _ => none
theorem shape_push (t : Tkn) (x : Toks) : shape (x.push t) = (shape x).map ((t.kind, t.text) :: ·) := by
  cases x <;> rfl
def GoodT (k : Nat) (x : List UInt8) : Prop := ∃ r n, firstT r = .ok k n ∧ x = r.take n
theorem GoodT.again {k : Nat} {x e : List UInt8} (h : GoodT k x) (he : SepE e) : ∃ c t, x ++ e = c :: t ∧ firstT (c :: t) = .ok k x.length := by
  obtain ⟨r, n, h1, rfl⟩ := h
  have h2 := firstT_ok h1
  have h3 := first_again h1 he
  have hl : (r.take n).length = n := by rw [List.length_take]; omega
  cases hx : r.take n ++ e with
  | nil =>
    have := congrArg List.length hx
    rw [List.length_append, hl] at this
    simp at this; omega
  | cons c t => exact ⟨c, t, rfl, by rw [← hx, h3, hl]⟩
def glue : List (Nat × List UInt8 × List UInt8) → List UInt8
  | [] => []
  | (_, x, s) :: r => x ++ (s ++ glue r)
theorem glue_tk : ∀ {L : List (Nat × List UInt8 × List UInt8)}, (∀ p ∈ L, GoodT p.1 p.2.1 ∧ Skip p.2.2) →
    (∀ (i : Nat) p, L[i]? = some p → i + 1 < L.length → ∃ c t, p.2.2 = c :: t ∧ sepB c = true) → (∀ p, L.getLast? = some p → p.2.2 = [] ∨ ∃ c t, p.2.2 = c :: t ∧ sepB c = true) →
    ∀ line col, shape (tk (glue L) line col) = some (L.map fun p => (p.1, p.2.1)) := by
  intro L
  induction L with
  | nil => intro _ _ _ line col; rfl
  | cons p r ih =>
    intro h1 h2 h3 line col
    obtain ⟨k, x, s⟩ := p
    obtain ⟨hg, hs⟩ := h1 (k, x, s) (by simp)
    have he : SepE (s ++ glue r) := by
      cases r with
      | nil =>
        rcases h3 (k, x, s) rfl with e | ⟨c, t, e, hc⟩
        · left; rw [show s = [] from e]; rfl
        · right; exact ⟨c, t ++ glue [], by rw [show s = c :: t from e]; rfl, hc⟩
      | cons q r' =>
        obtain ⟨c, t, e, hc⟩ := h2 0 (k, x, s) rfl (by simp)
        right
        exact ⟨c, t ++ glue (q :: r'), by rw [show s = c :: t from e]; rfl, hc⟩
    obtain ⟨c, t, e1, e2⟩ := hg.again he
    obtain ⟨l', c', e3⟩ := hs (glue r) line (col + x.length)
    have hi := ih (fun p hp => h1 p (by simp [hp])) (fun i p hp hl => h2 (i + 1) p (by simpa using hp) (by simp; omega)) (fun p hp => h3 p (by
      cases r with
      | nil => cases hp
      | cons q r' => rw [List.getLast?_cons_cons]; exact hp)) l' c'
    rw [glue, e1, tk_tok e2, shape_push]
    have e4 : (c :: t).drop x.length = s ++ glue r := by rw [← e1]; exact List.drop_left
    have e5 : (c :: t).take x.length = x := by rw [← e1]; exact List.take_left
    rw [e4, e5, e3, hi]
    rfl
theorem toks_good : ∀ (f : Nat) (r : List UInt8) (line col : Nat) (l : List Tkn), toks f r line col = .ok l → ∀ t ∈ l, GoodT t.kind t.text := by
  intro f
  induction f with
  | zero => intro r line col l h t ht; unfold toks at h; injection h with h; subst h; cases ht
  | succ f ih =>
    intro r line col l h t ht
    cases r with
    | nil => unfold toks at h; injection h with h; subst h; cases ht
    | cons c s =>
      unfold toks at h
      split at h
      · exact ih _ _ _ _ h t ht
      · split at h
        · exact ih _ _ _ _ h t ht
        · split at h
          · exact ih _ _ _ _ h t ht
          · split at h
            · cases h
            · rename_i k n hf
              cases hx : toks f ((c :: s).drop n) line (col + n) with
              | err x => rw [hx] at h; cases h
              | ok l' =>
                rw [hx] at h
                injection h with h
                subst h
                rcases List.mem_cons.1 ht with e | e
                · subst e; exact ⟨_, _, hf, rfl⟩
                · exact ih _ _ _ _ hx t e
end Bn

namespace Go.Proofs.YtfbigmdpdcpkfaaGreatDoor
open Go Go.RowKit Bn
attribute [local go_sem ↓] Go.wp_at_zero Go.wp_at_succ
theorem l_alike (w : World) (A : Option Addr) (n c : Nat) (l : List Tkn) (h : TkS w A n c l) (A' : Option Addr) (n' c' : Nat) (l' : List Tkn) (h' : TkS w A' n' c' l') (hll : l.map (fun t => (t.kind, t.text)) = l'.map (fun t => (t.kind, t.text))) (hn : n < 1000000000000) : Calls Tryz.prog 15 #[.slice A n c, .slice A' n' c'] w (RetV w (.bool true)) := by
 obtain rfl : n = n' := by rw [← h.1, ← h'.1]; simpa using congrArg List.length hll
 go_enter Tryz.func15, Tryz.ntmps15
 go_wp2_with fail
 go_loopw [5] (fun iv wr => ∃ i : Nat, iv = .int .i64 (i : Nat) ∧ i ≤ n ∧ Below w.heap.size w wr) (fun iv _ => n - (intOf iv).toNat)
 case atStart => exact ⟨0, rfl, Nat.zero_le _, brefl w⟩
 case round =>
  obtain ⟨i, rfl, hi, hb⟩ := hrel
  rcases Nat.lt_or_ge i n with hlt | hge
  ·have hi1 : ((i : Int) < (n : Int)) = True := by simp; omega
   obtain ⟨g, t, e, hc, ht, c0, c1, c2, c3⟩ := (h.belw hb).cells hlt
   obtain ⟨g', t', e', hc', ht', d0, d1, d2, d3⟩ := (h'.belw hb).cells hlt
   have hkt : (t.kind, t.text) = (t'.kind, t'.text) := by
    have h9 := congrArg (·[i]?) hll
    simp only [List.getElem?_map, ht, ht', Option.map_some] at h9
    exact Option.some.inj h9
   injection hkt with hk1 hk2
   rw [← hk1] at d0
   rw [← hk2] at d1
   subst e e'
   have H := Lib.hid h
   have H' := Lib.hid h'
   clear h h' ht ht'
   go_wp2_with fail
   go_quiet (fail)
   go_wp2_with fail
   go_roundw
   case rel => exact ⟨i + 1, by go_num, by omega, below_drewN hb _⟩
   case measure => simp [intOf]; omega
  ·have hi1 : ((i : Int) < (n : Int)) = False := by simp; omega
   have H := Lib.hid h
   have H' := Lib.hid h'
   clear h h'
   go_wp2_with fail
   go_ret
   exact ⟨rfl, hb⟩
end Go.Proofs.YtfbigmdpdcpkfaaGreatDoor

namespace Go.Proofs.YtfbigmdpdcpkfaaGreatDoor
open Go Go.RowKit Bn
theorem shape_ok {x : Toks} {L : List (Nat × List UInt8)} (h : Bn.shape x = some L) : ∃ m, x = .ok m ∧ m.map (fun t => (t.kind, t.text)) = L := by
  cases x with
  | ok m => exact ⟨m, rfl, Option.some.inj h⟩
  | err n => cases h
def sepsT : Nat → List UInt8
  | 0 => [32]
  | 1 => [13, 10]
  | 2 => [37, 120, 37, 10]
  | _ => [9, 32, 10, 37, 32, 125, 10]
def headsT : Nat → List UInt8
  | 0 => []
  | 1 => [37, 32, 97, 32, 99, 111, 109, 109, 101, 110, 116, 32, 123, 59, 10]
  | _ => [10, 9]
theorem sepsT_skip (i : Nat) : Skip (sepsT i) ∧ ∃ c t, sepsT i = c :: t ∧ sepB c = true := by
  match i with
  | 0 => exact ⟨Skip.blank (by decide) Skip.nil, _, _, rfl, by decide⟩
  | 1 => exact ⟨Skip.blank (by decide) (Skip.line Skip.nil), _, _, rfl, by decide⟩
  | 2 => exact ⟨Skip.com (u := [120, 37]) (by decide) Skip.nil, _, _, rfl, by decide⟩
  | n + 3 => exact ⟨Skip.blank (by decide) (Skip.blank (by decide) (Skip.line (Skip.com (u := [32, 125]) (by decide) Skip.nil))), _, _, rfl, by decide⟩
theorem headsT_skip (i : Nat) : Skip (headsT i) := by
  match i with
  | 0 => exact Skip.nil
  | 1 => exact Skip.com (u := [32, 97, 32, 99, 111, 109, 109, 101, 110, 116, 32, 123, 59]) (by decide) Skip.nil
  | n + 2 => exact Skip.line (Skip.blank (by decide) Skip.nil)
def comL (a : Nat) : Nat → List Tkn → List (Nat × List UInt8 × List UInt8)
  | _, [] => []
  | i, t :: r => (t.kind, t.text, sepsT ((a + i) % 4)) :: comL a (i + 1) r
theorem comL_map (a : Nat) : ∀ (l : List Tkn) (i : Nat), (comL a i l).map (fun p => (p.1, p.2.1)) = l.map fun t => (t.kind, t.text)
  | [], _ => rfl
  | t :: r, i => by
    show (t.kind, t.text) :: (comL a (i + 1) r).map _ = _
    rw [comL_map a r (i + 1)]; rfl
theorem comL_mem (a : Nat) : ∀ {l : List Tkn} {i : Nat} {p : Nat × List UInt8 × List UInt8}, p ∈ comL a i l → (∃ t ∈ l, p.1 = t.kind ∧ p.2.1 = t.text) ∧ ∃ j, p.2.2 = sepsT j
  | [], _, _, h => by cases h
  | t :: r, i, p, h => by
    rcases List.mem_cons.1 h with e | e
    · subst e; exact ⟨⟨t, by simp, rfl, rfl⟩, _, rfl⟩
    · obtain ⟨⟨x, hx, h1⟩, h2⟩ := comL_mem a e
      exact ⟨⟨x, List.mem_cons_of_mem _ hx, h1⟩, h2⟩
theorem comL_snoc (a : Nat) : ∀ (l : List Tkn) (t : Tkn) (i : Nat), comL a i (l ++ [t]) = comL a i l ++ [(t.kind, t.text, sepsT ((a + (i + l.length)) % 4))]
  | [], t, i => rfl
  | u :: r, t, i => by
    show (u.kind, u.text, sepsT ((a + i) % 4)) :: comL a (i + 1) (r ++ [t]) = _
    rw [comL_snoc a r t (i + 1), show i + 1 + r.length = i + (u :: r).length by rw [List.length_cons]; omega]; rfl
theorem glue_app : ∀ (L M : List (Nat × List UInt8 × List UInt8)), glue (L ++ M) = glue L ++ glue M
  | [], M => rfl
  | (k, x, s) :: r, M => by
    show x ++ (s ++ glue (r ++ M)) = (x ++ (s ++ glue r)) ++ glue M
    rw [glue_app r M]; simp
theorem sepsT_len (i : Nat) : (sepsT i).length ≤ 7 := by
  match i with
  | 0 => decide
  | 1 => decide
  | 2 => decide
  | n + 3 => exact Nat.le_refl 7
theorem headsT_len (i : Nat) : (headsT i).length ≤ 15 := by
  match i with
  | 0 => decide
  | 1 => decide
  | n + 2 => show 2 ≤ 15; decide
theorem comL_len (a : Nat) : ∀ (l : List Tkn) (i : Nat), (glue (comL a i l)).length ≤ (l.map fun t => t.text.length).sum + 7 * l.length
  | [], _ => by simp [comL, glue]
  | t :: r, i => by
    have h := comL_len a r (i + 1)
    have h2 := sepsT_len ((a + i) % 4)
    show (t.text ++ (sepsT ((a + i) % 4) ++ glue (comL a (i + 1) r))).length ≤ _
    simp only [List.length_append, List.length_cons, List.map_cons, List.sum_cons]
    omega
theorem com_again {s : List UInt8} {l : List Tkn} (h : tokens s = .ok l) (hl : s.length ≤ 3000) (a b : Nat) : ∃ m, SplitOut (headsT b ++ glue (comL a 0 l)) 0 m ∧ l.map (fun t => (t.kind, t.text)) = m.map fun t => (t.kind, t.text) := by
  have hg := toks_good _ _ _ _ _ h
  obtain ⟨l', c', e0⟩ := headsT_skip b (glue (comL a 0 l)) 1 1
  have hs := glue_tk (L := comL a 0 l) (fun p hp => by
    obtain ⟨⟨t, ht, e1, e2⟩, j, e3⟩ := comL_mem a hp
    exact ⟨by rw [e1, e2]; exact hg t ht, by rw [e3]; exact (sepsT_skip j).1⟩) (fun i p hp _ => by
    obtain ⟨_, j, e3⟩ := comL_mem a (List.mem_of_getElem? hp)
    rw [e3]; exact (sepsT_skip j).2) (fun p hp => by
    obtain ⟨_, j, e3⟩ := comL_mem a (List.mem_of_getLast? hp)
    right; rw [e3]; exact (sepsT_skip j).2) l' c'
  rw [← e0, comL_map] at hs
  obtain ⟨m, hm, he⟩ := shape_ok hs
  have h1 := comL_len a l 0
  have h2 := tokens_len h
  have h3 := headsT_len b
  exact ⟨m, .ok (by rw [List.length_append]; omega) hm rfl, he.symm⟩
end Go.Proofs.YtfbigmdpdcpkfaaGreatDoor

/- Walks: TokenComments. -/
namespace Go.Proofs.YtfbigmdpdcpkfaaGreatDoor
open Go Go.RowKit Bn
attribute [local go_sem ↓] Go.wp_at_zero Go.wp_at_succ
theorem comL_take (a : Nat) {l : List Tkn} {i : Nat} {t : Tkn} (h : l[i]? = some t) : glue (comL a 0 (l.take (i + 1))) = glue (comL a 0 (l.take i)) ++ (t.text ++ sepsT ((a + i) % 4)) := by
  have htk : l.take (i + 1) = l.take i ++ [t] := by rw [List.take_add_one, h]; rfl
  have hlt : i < l.length := (List.getElem?_eq_some_iff.1 h).1
  rw [htk, comL_snoc, glue_app, List.length_take, Nat.min_eq_left (by omega), Nat.zero_add]
  simp [glue]
theorem take_sum : ∀ (l : List Tkn) (i : Nat), ((l.take i).map fun t => t.text.length).sum ≤ (l.map fun t => t.text.length).sum
  | [], i => by simp
  | t :: l, 0 => by simp
  | t :: l, i + 1 => by
    have := take_sum l i
    simp only [List.take_succ_cons, List.map_cons, List.sum_cons]
    omega
theorem seps_4 {n : Nat} (h : n < 4) : ∀ h', ([Value.string ⟨#[32]⟩, Value.string ⟨#[13, 10]⟩, Value.string ⟨#[37, 120, 37, 10]⟩, Value.string ⟨#[9, 32, 10, 37, 32, 125, 10]⟩] : List Value)[n]'h' = strV (sepsT n) := by
  intro h'
  match n, h with
  | 0, _ => rfl
  | 1, _ => rfl
  | 2, _ => rfl
  | 3, _ => rfl
theorem heads_3 {n : Nat} (h : n < 3) : ∀ h', ([Value.string ⟨#[]⟩, Value.string ⟨#[37, 32, 97, 32, 99, 111, 109, 109, 101, 110, 116, 32, 123, 59, 10]⟩, Value.string ⟨#[10, 9]⟩] : List Value)[n]'h' = strV (headsT n) := by
  intro h'
  match n, h with
  | 0, _ => rfl
  | 1, _ => rfl
  | 2, _ => rfl
theorem below_drew {n : Nat} {w w' : World} (h : Below n w w') : Below n w w'.drew := below_drewN h 1
theorem l_TokenComments (w : World) (s : List UInt8) (_ : s.length < 9223372036854775808) (x : Int) (hx8 : 0 ≤ x ∧ x ≤ 255) (_ : Tab w) (hmx : Mx w) : Calls Tryz.prog 5 #[strV s, .int .u8 x] w (RetV w (.bool true)) := by
 obtain ⟨a, rfl⟩ : ∃ a : Nat, x = (a : Int) := ⟨x.toNat, by omega⟩
 have ha : a ≤ 255 := by omega
 clear hx8
 by_cases h1 : 3000 < s.length
 ·have f1 : ((3000 : Int) < (s.length : Int)) = True := eq_true (by omega)
  go_enter Tryz.func5, Tryz.ntmps5
  go_wp2_with fail
  (with_reducible refine (l18_awake w hmx).mono ?_); rintro e w1 ⟨rfl, hb1⟩
  have hmx1 := hmx.belw hb1
  go_wp2_with fail
  (with_reducible refine (l18_awake w1 hmx1).mono ?_); rintro e w2 ⟨rfl, hb2⟩
  have bw2 := hb1.trans (hb2.mono hb1.size)
  go_wp2_with fail
  go_ret
  exact retB rfl bw2
 ·have f1 : ((3000 : Int) < (s.length : Int)) = False := eq_false (by omega)
  rcases splitOut_small (s := s) (by omega) with ⟨k, hk, hx⟩ | ⟨l, ht, hx⟩
  ·have HX := Lib.hid hx
   clear hx
   go_enter Tryz.func5, Tryz.ntmps5
   go_wp2_with fail
   (with_reducible refine (l18_awake w hmx).mono ?_); rintro e w1 ⟨rfl, hb1⟩
   go_wp2_with fail
   (with_reducible refine (t_split_x w1 s _ _ HX.out).mono ?_); rintro e w2 ⟨A, n, c, rfl, hS, hb2⟩
   have bw2 := hb1.trans (hb2.mono hb1.size)
   rw [errV_pos hk]
   clear hS hb2 hb1
   go_wp2_with fail
   go_ret
   exact retB rfl bw2
  ·obtain ⟨m, hm, hmap⟩ := com_again ht (by omega) a (a % 3)
   have hll : l.length ≤ 3000 ∧ (l.map fun t => t.text.length).sum ≤ 3000 := by
    have h4 := tokens_len ht
    omega
   have HX := Lib.hid hx
   have HM := Lib.hid hm
   have HMAP := Lib.hid hmap
   clear hx hm hmap ht
   have r3 : Int.tmod (a : Int) 3 = ((a % 3 : Nat) : Int) := rfl
   have H3 := heads_3 (n := a % 3) (Nat.mod_lt _ (by decide))
   have l3 : a % 3 < 3 := Nat.mod_lt _ (by decide)
   obtain ⟨A0, hA0⟩ : ∃ b, a % 3 = b := ⟨_, rfl⟩
   rw [hA0] at r3 H3 l3 HM
   go_enter Tryz.func5, Tryz.ntmps5
   go_wp2_with fail
   (with_reducible refine (l18_awake w hmx).mono ?_); rintro e w1 ⟨rfl, hb1⟩
   go_wp2_with fail
   (with_reducible refine (t_split_x w1 s _ _ HX.out).mono ?_); rintro e w2 ⟨A, n, c, rfl, hS, hb2⟩
   obtain rfl : l.length = n := hS.1
   have bw2 := hb1.trans (hb2.mono hb1.size)
   have HS := Lib.hid hS
   clear hS hb2 hb1
   rw [errV_0]
   go_wp2_with fail
   go_loopw [7, 8] (fun ov iv wr => ∃ i : Nat, ov = strV (headsT A0 ++ glue (comL a 0 (l.take i))) ∧ iv = .int .i64 (i : Nat) ∧ i ≤ l.length ∧ Below w2.heap.size w2 wr) (fun _ iv _ => l.length - (intOf iv).toNat)
   case atStart => exact ⟨0, by simp [comL, glue], rfl, Nat.zero_le _, (brefl w2).alloc (Nat.le_refl _) _⟩
   case round =>
    obtain ⟨i, rfl, rfl, hi, hb⟩ := hrel
    clear H3
    obtain ⟨X, hX⟩ : ∃ X, headsT A0 ++ glue (comL a 0 (l.take i)) = X := ⟨_, rfl⟩
    rcases Nat.lt_or_ge i l.length with hlt | hge
    ·have hi1 : ((i : Int) < (l.length : Int)) = True := by simp; omega
     obtain ⟨g, t, e, hc, ht, c0, c1, c2, c3⟩ := (HS.out.belw hb).cells hlt
     subst e
     have hgl : g < wr.heap.size := World.block_lt_of_cell? wr _ c0
     have hne : ¬ g = wr.heap.size := by omega
     have hR := comL_take a ht
     have r4 : Int.tmod ((a : Int) + (i : Int)) 4 = (((a + i) % 4 : Nat) : Int) := by rw [← Int.natCast_add]; rfl
     have l4 : (a + i) % 4 < 4 := Nat.mod_lt _ (by decide)
     have H4 := seps_4 l4
     have hln : X.length + (t.text.length + (sepsT ((a + i) % 4)).length) ≤ 100000 := by
      rw [← hX, List.length_append]
      have h5 := headsT_len A0
      have h6 := comL_len a (l.take i) 0
      have h7 := sepsT_len ((a + i) % 4)
      have h8 := take_sum l i
      have h9 := take_sum l (i + 1)
      rw [List.take_add_one, ht] at h9
      simp only [Option.toList_some, List.map_append, List.sum_append, List.map_cons, List.map_nil, List.sum_cons, List.sum_nil] at h9
      rw [List.length_take] at h6
      omega
     obtain ⟨B, hB⟩ : ∃ b, (a + i) % 4 = b := ⟨_, rfl⟩
     rw [hB] at r4 l4 H4 hln hR
     obtain ⟨S, hS⟩ : ∃ S, sepsT B = S := ⟨_, rfl⟩
     rw [hS] at H4 hln hR
     have ha1 := app_v t.text S
     have ha2 := app_v X (t.text ++ S)
     have w1' : IntKind.i64.wrap ((a : Int) + (i : Int)) = (a : Int) + (i : Int) := IntWalk.i64_in _ ⟨by omega, by omega⟩
     have k1 : (9223372036854775807 < t.text.length + S.length) = False := by simp; omega
     have k2 : (9223372036854775807 < X.length + (t.text.length + S.length)) = False := by simp; omega
     have HR := Lib.hid hR
     clear hR hS hB ht hln
     rw [hX]
     have HXX := Lib.hid hX
     clear hX
     go_wp2_with fail
     go_region
     go_wp2_with fail
     go_roundw
     case rel => exact ⟨i + 1, by rw [HR.out, ← List.append_assoc (headsT A0), HXX.out], by go_num, by omega, below_drew (hb.alloc hb.size _)⟩
     case measure => simp [intOf]; omega
    ·have hi1 : ((i : Int) < (l.length : Int)) = False := by simp; omega
     have hR : l.take i = l := List.take_of_length_le hge
     have bw3 := bw2.trans (hb.mono bw2.size)
     have HS2 := Lib.hid (HS.out.belw hb)
     rw [hR] at hX
     have HM2 := HM
     rw [hX] at HM2
     rw [hR, hX]
     clear hR hX HM
     go_wp2_with fail
     (with_reducible refine (t_split_x wr _ _ _ HM2.out).mono ?_); rintro e w4 ⟨A4, n4, c4, rfl, hS4, hb4⟩
     have bw4 := bw3.trans (hb4.mono bw3.size)
     have HS3 := Lib.hid (HS2.out.belw hb4)
     have HS4 := Lib.hid hS4
     clear HS2 hS4 hb4 bw3
     rw [errV_0]
     go_wp2_with fail
     (with_reducible refine (l_alike w4 A l.length c l HS3.out A4 n4 c4 m HS4.out HMAP.out (by omega)).mono ?_); rintro e w5 ⟨rfl, hb5⟩
     have bw5 := bw4.trans (hb5.mono bw4.size)
     go_wp2_with fail
     go_ret
     exact retB rfl bw5
end Go.Proofs.YtfbigmdpdcpkfaaGreatDoor

namespace Go.Proofs.YtfbigmdpdcpkfaaGreatDoor
open Go Go.RowKit Bn Go.ChangeShapes Go.WideShapes

theorem wfu8 {i : Int} (h : (Lit.int .u8 i).wf = true) : 0 ≤ i ∧ i ≤ 255 := by simpa [Lit.wf, IntKind.min, IntKind.max, IntKind.signed, IntKind.bits] using h
section
variable {H : Type} {enc : TypeId × Value → H} {W : World} {base : Nat}
end
end Go.Proofs.YtfbigmdpdcpkfaaGreatDoor

/- TokenComments: comments and blanks between tokens do not matter; for every input the law returns true. The listed library variables are tied to the program text. -/
namespace Go.Proofs.YtfbigmdpdcpkfaaGreatDoor
open Go Go.RowKit Bn Go.ChangeShapes Go.WideShapes Go.ChangeAt
theorem comments_contract (H : Type) (enc : TypeId × Value → H) (W : World) (base : Nat) (args : Array Value) (ds gs : List (DataW H)) (before : List MemPlace)
    (hval0 : ∀ (j : Nat) t v, Tryz.f5.params[j]? = some t → args[j]? = some v → Value.okWide Tryz.prog W .any base t v)
    (hW : DataW.Whole enc Tryz.prog Tryz.f5.params.toList Rows.tokenCommentsSpec.vars false W args.toList ds gs before) (hL : laidMetH Tryz.prog Rows.tokenCommentsRow.laid W) (hsh : W.ShapedOpen Tryz.prog) :
    Calls Tryz.prog 5 args W fun e W' => ∃ v, e = .returned v ∧ Rows.tokenCommentsSpec.post enc Tryz.prog Tryz.f5 false true false false W args v W' := by
  have hval : ∀ (j : Nat) t v, Tryz.f5.params[j]? = some t → args[j]? = some v → Value.okWide Tryz.prog W .any base t v := hval0
  have htab : Tab W := tab_of_laid hL
  have hmx : Mx W := mx_of_shaped hsh
  have hW' := hW
  obtain ⟨p, q, hA0, hV, rfl, hfz, hnd⟩ := hW
  have hA : DataW.TrodAll enc Tryz.prog W 0 (fun _ => true) true Tryz.f5.params.toList args.toList ds p := hA0
  rw [Tryz.params5] at hA hval
  obtain ⟨v0, v1, d0, d1, p0, p1, rfl, rfl, rfl, h0, h1⟩ := trodAll_two hA
  obtain ⟨rfl, rfl⟩ := trodVars_none hV
  obtain ⟨s, rfl, rfl, rfl, hs⟩ := Go.ChangeMaps.open_string Tryz.underlying9 (hval 0 _ v0 rfl rfl) h0
  obtain ⟨t, rfl⟩ : ∃ t : List UInt8, s = ⟨t.toArray⟩ := ⟨s.data.toList, by simp⟩
  have ht : t.length < 9223372036854775808 := by unfold maxLen at hs; have h9 : t.length ≤ _ := hs; omega
  obtain ⟨x, rfl, rfl, rfl, hx⟩ := open_int Tryz.underlying5 (hval 1 _ v1 rfl rfl) h1
  refine (l_TokenComments W t ht x (wfu8 hx) htab hmx).mono fun e W' ⟨he, hb⟩ => ?_
  subst he
  exact ⟨_, rfl, law_post laid_out Tryz.underlying4 hW' rfl rfl (by kernel_rfl) rfl rfl rfl hb⟩
theorem comments_lifted (os : Os) (started : os.Started) (H : Type) (enc : TypeId × Value → H) (F : Stop.Interp) :
    ReturnsInHanded {} Tryz.checked os 5 .any ((OpenSpec.ofChange Rows.tokenCommentsSpec).preRow enc Tryz.prog Tryz.f5 Rows.tokenCommentsRow.domain false Rows.tokenCommentsRow.laid) (((OpenSpec.ofChange Rows.tokenCommentsSpec).at F).post enc Tryz.prog Tryz.f5 false true false false) := by
  have hx : DataW.whole enc Tryz.prog ((laidWorld os).forCall (fun _ _ => 0) ⟨#[], #[.string ⟨#[]⟩, .int .u8 0], []⟩).memory Tryz.f5.params.toList Rows.tokenCommentsSpec.vars false (#[.string ⟨#[]⟩, .int .u8 0] : Array Value).toList 8 = some ([.lit (.string []), .lit (.int .u8 0)], [], []) := by kernel_rfl
  have hl : laidMet Tryz.prog Rows.tokenCommentsRow.laid ((laidWorld os).forCall (fun _ _ => 0) ⟨#[], #[.string ⟨#[]⟩, .int .u8 0], []⟩).memory := laidMet_of_run' 8 (by kernel_rfl) (by kernel_rfl)
  refine returnsInHanded_of_row (C := Tryz.checked) (s := OpenSpec.ofChange Rows.tokenCommentsSpec) own_knob started (by kernel_rfl) Tryz.func5
    (witness_row_at (enc := enc) (C := Tryz.checked) false (laidWorld os) #[.string ⟨#[]⟩, .int .u8 0] rfl (by kernel_rfl) (by kernel_rfl) (by kernel_rfl)
      (OpenSpec.preRow_of_cond 8 hx (by kernel_rfl) (fun k hk => by cases hk) (by kernel_rfl) hl)) ?_
  intro W base args ds gs before hval hW _ _ _ hL hsh _
  exact comments_contract H enc W base args ds gs before hval hW hL hsh
theorem comments_j2 : (Rows.tokenCommentsRow.inPlace == Tryz.pinned.checked.prog.inPlace 5) = true := by kernel_rfl
theorem comments_j3 : (Rows.tokenCommentsRow.unfollowed == Tryz.pinned.checked.prog.unfollowed 5) = true := by kernel_rfl
theorem comments_j4 : (Rows.tokenCommentsRow.recurses == Tryz.pinned.checked.prog.recurses 5) = true := by kernel_rfl
theorem comments_j5 : (Rows.tokenCommentsRow.named == Tryz.pinned.checked.prog.varsNamed 5) = true := by kernel_rfl
theorem comments_joined : joinedFacts Tryz.pinned.checked.prog 5 Tryz.f5 (OpenSpec.ofChange Rows.tokenCommentsSpec).bare Rows.tokenCommentsRow = true := joined_parts (by kernel_rfl) comments_j2 comments_j3 comments_j4 comments_j5 (by kernel_rfl)
theorem comments_inst : Tryz.f5.isInstance Tryz.pinned.checked.prog Rows.tokenCommentsRow.origin Rows.tokenCommentsRow.targs := of_decide_eq_true (by kernel_rfl)
theorem comments_said : Rows.TokenCommentsSaid :=
  OpenClaim.holds_of_cond 5 Tryz.f5 rfl rfl rfl rfl rfl rfl rfl ⟨rfl, rfl, rfl, rfl, rfl⟩ rfl rfl rfl rfl rfl (by kernel_rfl) Tryz.func5 comments_joined
    comments_inst (by unfold Func.isWrapper; first | (rw [if_pos (by decide +kernel)]; kernel_rfl) | (rw [if_neg (by decide +kernel)]; exact ⟨rfl, rfl⟩))
    (fun os started H enc _ F => by rw [OpenClaim.pre_eq_preRow]; exact comments_lifted os started H enc F)
theorem comments_plain (f : FuncId) (fn : Func) (hf : Tryz.pinned.checked.prog.funcNamed "linkwork/linkworklaw18.TokenComments" = some f) (hfn : Tryz.pinned.checked.prog.funcs[f]? = some fn) :
    true = Tryz.pinned.checked.prog.looks [] ∧ ∀ (j : Nat) t, fn.params[j]? = some t → Tryz.pinned.checked.prog.wantsStandIn t = false := by
  obtain rfl : f = 5 := Option.some.inj ((show Tryz.prog.funcNamed "linkwork/linkworklaw18.TokenComments" = some 5 by kernel_rfl).symm.trans hf) |>.symm
  obtain rfl : fn = Tryz.f5 := (Option.some.inj (Tryz.func5.symm.trans hfn)).symm
  refine ⟨by kernel_rfl, fun j t ht => ?_⟩
  rw [Tryz.params5] at ht
  have hm : t ∈ [9, 5] := by
    have := Array.mem_of_getElem? ht
    simp at this ⊢
    first
      | exact this
      | exact .inl this
  have hall : ([9, 5].all fun u => !Tryz.prog.wantsStandIn u) = true := by kernel_rfl
  exact (show Tryz.prog.wantsStandIn t = false by simpa using List.all_eq_true.1 hall t hm)
theorem comments_holds : Rows.TokenCommentsCardSaid :=
  Claim7.holds_tied_plain_at .later [] _ _ _ _ comments_said (fun _ h => by cases h) (by kernel_rfl) (fun _ h => by cases h) tokenComments_row_tie rfl ⟨rfl, rfl⟩ (by kernel_rfl) rfl comments_plain (by kernel_rfl)
end Go.Proofs.YtfbigmdpdcpkfaaGreatDoor
