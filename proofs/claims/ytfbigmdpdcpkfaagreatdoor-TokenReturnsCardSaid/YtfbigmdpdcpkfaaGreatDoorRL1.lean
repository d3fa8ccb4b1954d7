/- TokenReturns: joined tokens are split into the same kinds and texts; for every input the law returns true. The listed library variables are tied to the program text. -/
import Derived.Below
import Derived.Laws.OwnMore
import Derived.Deep.Draws
import Derived.OneCell
import Derived.Laws.Rows
import Derived.Test.YtfbigmdpdcpkfaaGreatDoorProg
import Derived.WalkKit
import Derived.WalkSpells
import Derived.WalkLawsBesides
import Derived.BigQuiet
import Derived.Deep.QuietTactic
import Derived.Deep.AppendLies
import Derived.Lib.Hide
import Derived.Deep.RegionHeld3
import Derived.Deep.DrawnRows
import Derived.Shelf.Strings.Builder1
import Derived.Shelf.Strings.Builder2
import Derived.Shelf.Strings.OnBuilder
import Derived.Shelf.Strings.Trim
import Derived.Shelf.Small.Utf8
import Derived.Shelf.Small.Bits
import Derived.Shelf.Small.Strs
import Derived.Shelf.Small.Wraps
import Derived.Shelf.Strings.BuilderF
import Derived.Shelf.Strconv.Atoi
import Derived.Shelf.Strconv.Itoa0
import Derived.Shelf.Strconv.Itoa1
import Derived.Shelf.LaysM
import Derived.Shelf.Strconv.Itoa2
import Derived.Shelf.Strconv.Itoa3
import Derived.Shelf.Strings.Search1
import Derived.Shelf.Strings.Search2
import Derived.Shelf.Strings.Cut
import Derived.Shelf.Strings.Shaped
import Derived.Shelf.Strings.Prefix
import Derived.Shelf.Strings.Runes
import Derived.Shelf.Strings.AsciiSet
import Derived.Shelf.Bits.Mul64
import Derived.Shelf.Strings.Repeat
import Derived.Shelf.Unicode.DecodeSlow
import Derived.IntWalk
import Derived.Deep.DeepCutAuto
import Derived.Deep.RegionHeld
import Derived.Lib.ItoaNum
import Derived.Lib.ItoaMem
import Derived.Lib.Repeat
import Derived.Lib.Join
import Derived.Lib.Atoi
import Derived.Lib.SlTrimSet
import Derived.Lib.AppendIntMem
import Derived.Shelf.Strings.SlTrimAscii
import Derived.Lib.IndexMore
import Derived.Test.YtfbigmdpdcpkfaaGreatDoorCards
import Derived.Test.YtfbigmdpdcpkfaaGreatDoorTie
import Derived.ProofKit
import Derived.OpenShut
import Derived.Deep.DeepHandedRow
import Derived.Lib.LaidTab
import Derived.Shelf.Vars
import Derived.ChangeMaps5
import Derived.Test.YtfbigmdpdcpkfaaGreatDoorA3
set_option linter.unusedVariables false
set_option maxHeartbeats 8000000
set_option maxRecDepth 100000
namespace Go.Proofs
open Go.Shelf
def Tryz.lays156_ren : Go.Shelf.Ren := ⟨fun | 156 => 49 | 165 => 61 | 166 => 62 | 169 => 64 | 240 => 94 | 241 => 95 | 276 => 122 | 277 => 123 | n => n, fun | 31 => 35 | 9 => 9 | 3 => 3 | 4 => 4 | 0 => 0 | 20 => 20 | 72 => 92 | 76 => 94 | 70 => 89 | 37 => 90 | 75 => 25 | 127 => 118 | 164 => 134 | 5 => 5 | 80 => 97 | n => n, fun | n => n⟩
theorem Tryz.lays156 : Go.Proofs.Lays.n156 Tryz.prog Tryz.lays156_ren := {
  mixed := by kernel_rfl
  f156 := Tryz.func49.trans (congrArg some (by kernel_rfl))
  f165 := Tryz.func61.trans (congrArg some (by kernel_rfl))
  f166 := Tryz.func62.trans (congrArg some (by kernel_rfl))
  f169 := Tryz.func64.trans (congrArg some (by kernel_rfl))
  f240 := Tryz.func94.trans (congrArg some (by kernel_rfl))
  f241 := Tryz.func95.trans (congrArg some (by kernel_rfl))
  f276 := Tryz.func122.trans (congrArg some (by kernel_rfl))
  f277 := Tryz.func123.trans (congrArg some (by kernel_rfl))
  t0 := Tryz.underlying0
  a0 := Tryz.isAgg0
  z0 := Tryz.sizeOf0
  v0 := Tryz.zeroValue0
  t3 := Tryz.underlying3
  a3 := Tryz.isAgg3
  z3 := Tryz.sizeOf3
  v3 := Tryz.zeroValue3
  t4 := Tryz.underlying4
  a4 := Tryz.isAgg4
  z4 := Tryz.sizeOf4
  v4 := Tryz.zeroValue4
  t9 := Tryz.underlying9
  a9 := Tryz.isAgg9
  z9 := Tryz.sizeOf9
  v9 := Tryz.zeroValue9
  t20 := Tryz.underlying20
  a20 := Tryz.isAgg20
  z20 := Tryz.sizeOf20
  v20 := Tryz.zeroValue20
  t31 := Tryz.underlying35
  a31 := Tryz.isAgg35
  z31 := Tryz.sizeOf35
  v31 := Tryz.zeroValue35
  t37 := Tryz.underlying90
  a37 := Tryz.isAgg90
  z37 := Tryz.sizeOf90
  v37 := Tryz.zeroValue90
  t70 := Tryz.underlying89
  a70 := Tryz.isAgg89
  z70 := Tryz.sizeOf89
  v70 := Tryz.zeroValue89
  t72 := Tryz.underlying92
  a72 := Tryz.isAgg92
  z72 := Tryz.sizeOf92
  v72 := Tryz.zeroValue92
  t75 := Tryz.underlying25
  a75 := Tryz.isAgg25
  z75 := Tryz.sizeOf25
  v75 := Tryz.zeroValue25
  t76 := Tryz.underlying94
  a76 := Tryz.isAgg94
  z76 := Tryz.sizeOf94
  v76 := Tryz.zeroValue94
  t127 := Tryz.underlying118
  a127 := Tryz.isAgg118
  z127 := Tryz.sizeOf118
  v127 := Tryz.zeroValue118
  t164 := Tryz.underlying134
  a164 := Tryz.isAgg134
  z164 := Tryz.sizeOf134
  v164 := Tryz.zeroValue134 }
theorem Tryz.Builder_Extra_156 : Builder.Extra Tryz.prog Tryz.lays156_ren := {
  sizeBuilder := by kernel_rfl
  liesBuilder := by kernel_rfl
  t5 := Tryz.underlying5
  a5 := Tryz.isAgg5
  z5 := Tryz.sizeOf5
  v5 := Tryz.zeroValue5
  infoByte := by kernel_rfl
  cellsByte := by kernel_rfl
  sizeByte := by kernel_rfl
  neB5 := by decide }
open Go.RowKit in
theorem Tryz.strings_Join_none (a : Option Addr) (c : Nat) (sep : ByteArray) (w : World) :
    Calls Tryz.prog 49 #[.slice a 0 c, .string sep] w fun e w' => e = .returned (.string ⟨#[]⟩) ∧ w' = w := Any.strings_Join_none Tryz.lays156 Tryz.Builder_Extra_156 a c sep w
open Go.RowKit in
theorem Tryz.strings_Join (bk o c : Nat) (xs : List ByteArray) (sep : ByteArray) (w : World) (hcells : ∀ (j : Nat) x, xs[j]? = some x → w.cell? ⟨bk, o + j, none⟩ = some (.string x)) (hbk : bk < w.heap.size) (hN : xs.length ≤ 140737488355328) (hcap : xs.length ≤ c) (hlen : (Lib.join (xs.map (·.data.toList)) sep.data.toList).length ≤ 140737488355328) :
    Calls Tryz.prog 49 #[.slice (some ⟨bk, o, none⟩) xs.length c, .string sep] w fun e w' => e = .returned (.string ⟨(Lib.join (xs.map (·.data.toList)) sep.data.toList).toArray⟩) ∧ Below w.heap.size w w' := Any.strings_Join Tryz.lays156 Tryz.Builder_Extra_156 bk o c xs sep w hcells hbk hN hcap hlen
end Go.Proofs

namespace Go.Proofs.YtfbigmdpdcpkfaaGreatDoor
open Go Go.RowKit Bn

theorem info_str : (Tryz.prog.info? 9).map (fun i => (i.zero, i.size, i.bytes)) = some (some (.string ⟨#[]⟩), 1, 16) := by kernel_rfl
end Go.Proofs.YtfbigmdpdcpkfaaGreatDoor

namespace Bn
theorem first_again {r : List UInt8} {k n : Nat} (h : firstT r = .ok k n) {e : List UInt8} (he : SepE e) : firstT (r.take n ++ e) = .ok k n := by
  unfold firstT at h
  split at h
  · cases h
  · rename_i c t
    split at h
    · rename_i hs
      injection h with h1 h2; subst h1; subst h2
      show firstT (c :: e) = _
      unfold firstT
      simp only [hs, if_true]
    · rename_i hs
      split at h
      · rename_i hw
        split at h
        · cases h
        · rename_i h24
          injection h with h1 h2; subst h1
          have hl : isLet c = true := by
            rw [wordN] at hw; split at hw
            · assumption
            · omega
          have hwn : wordN (c :: t) = 1 + (t.takeWhile isPart).length := by rw [wordN, hl, if_pos rfl]
          obtain ⟨d, e1, _⟩ := tw_split isPart t
          have ht : (c :: t).take n = c :: t.takeWhile isPart := by
            rw [← h2, hwn, Nat.add_comm, List.take_succ_cons]
            congr 1
            exact (congrArg (List.take _) e1).trans List.take_left
          have hw2 : wordN (c :: (t.takeWhile isPart ++ e)) = n := by
            rw [wordN, hl, if_pos rfl, tw_app e (tw_all t) (fun c t h => (sepB_not (he.np c t h)).1), ← hwn, h2]
          rw [ht, List.cons_append]
          unfold firstT
          simp only [hs, hw2]
          rw [h2] at hw h24
          simp [hw, h24]
      · rename_i hw
        split at h
        · cases h
        · rename_i hn0
          split at h
          · cases h
          · rename_i h60
            split at h
            · cases h
            · injection h with h1 h2; subst h1
              obtain ⟨P, d, x, P', e1, e2, e3, e4, _, e5⟩ := num_form (Nat.pos_of_ne_zero hn0)
              have hP : (c :: t).take n = P := by rw [← h2, ← e2, e1]; exact List.take_left
              have hxc : x = c := by rw [e3, List.cons_append] at e1; injection e1 with h _; exact h.symm
              subst hxc
              have hsx : isSgn x = false := by simpa using hs
              have hlx : isLet x = false := by
                rcases e4 with h | h
                · unfold isDg at h; unfold isLet; simp at h ⊢; omega
                · subst h; decide
              rw [hP]
              have h7 := e5 e he
              have h8 : wordN (P ++ e) = 0 := by rw [e3, List.cons_append, wordN, hlx]; rfl
              have h9 : badEnd ((P ++ e).drop P.length) = false := by
                rw [List.drop_left]
                cases e with
                | nil => rfl
                | cons a b => have := sepB_not (he.np a b rfl); simp [badEnd, this.2.2.1, this.2.2.2.1, this.2.2.2.2.1, this.2.2.2.2.2]
              have hPn : P.length = n := by rw [e2, h2]
              have hform : firstT (P ++ e) = (if isSgn x then .ok 2 1 else if 0 < wordN (P ++ e) then (if 24 < wordN (P ++ e) then .err 5 else .ok 0 (wordN (P ++ e))) else if numN (P ++ e) = 0 then .err 2 else if 60 < numN (P ++ e) then .err 4 else if badEnd ((P ++ e).drop (numN (P ++ e))) then .err 2 else .ok 1 (numN (P ++ e))) := by
                rw [e3, List.cons_append]; rfl
              rw [hform, h8, h7, h9, hsx, hPn]
              rw [h2] at hn0 h60
              simp [hn0, h60]
end Bn

namespace Bn
theorem Skip.blank {c : UInt8} {s : List UInt8} (hc : isBlk c = true) (h : Skip s) : Skip (c :: s) := fun rest line col => by
  obtain ⟨a, b, e⟩ := h rest line (col + 1)
  exact ⟨a, b, by rw [List.cons_append, tk_blank hc, e]⟩
def shape : Toks → Option (List (Nat × List UInt8))
  | .ok l => some (l.map fun t => (t.kind, t.text))
  | .err _ => none
theorem shape_push (t : Tkn) (x : Toks) : shape (x.push t) = (shape x).map ((t.kind, t.text) :: ·) := by
  cases x <;> rfl
def GoodT (k : Nat) (x : List UInt8) : Prop := ∃ r n, firstT r = .ok k n ∧ x = r.take n
theorem GoodT.again {k : Nat} {x e : List UInt8} (h : GoodT k x) (he : SepE e) : ∃ c t, x ++ e = c :: t ∧ firstT (c :: t) = .ok k x.length := by
  obtain ⟨r, n, h1, rfl⟩ := h
  have h2 := firstT_ok h1
  have h3 := first_again h1 he
  have hl : (r.take n).length = n := by rw [List.length_take]; omega
  cases hx : r.take n ++ e with
  | nil =>
    have := congrArg List.length hx
    rw [List.length_append, hl] at this
    simp at this; omega
  | cons c t => exact ⟨c, t, rfl, by rw [← hx, h3, hl]⟩
def glue : List (Nat × List UInt8 × List UInt8) → List UInt8
  | [] => []
  | (_, x, s) :: r => x ++ (s ++ glue r)
theorem glue_tk : ∀ {L : List (Nat × List UInt8 × List UInt8)}, (∀ p ∈ L, GoodT p.1 p.2.1 ∧ Skip p.2.2) →
    (∀ (i : Nat) p, L[i]? = some p → i + 1 < L.length → ∃ c t, p.2.2 = c :: t ∧ sepB c = true) → (∀ p, L.getLast? = some p → p.2.2 = [] ∨ ∃ c t, p.2.2 = c :: t ∧ sepB c = true) →
    ∀ line col, shape (tk (glue L) line col) = some (L.map fun p => (p.1, p.2.1)) := by
  intro L
  induction L with
  | nil => intro _ _ _ line col; rfl
  | cons p r ih =>
    intro h1 h2 h3 line col
    obtain ⟨k, x, s⟩ := p
    obtain ⟨hg, hs⟩ := h1 (k, x, s) (by simp)
    have he : SepE (s ++ glue r) := by
      cases r with
      | nil =>
        rcases h3 (k, x, s) rfl with e | ⟨c, t, e, hc⟩
        · left; rw [show s = [] from e]; rfl
        · right; exact ⟨c, t ++ glue [], by rw [show s = c :: t from e]; rfl, hc⟩
      | cons q r' =>
        obtain ⟨c, t, e, hc⟩ := h2 0 (k, x, s) rfl (by simp)
        right
        exact ⟨c, t ++ glue (q :: r'), by rw [show s = c :: t from e]; rfl, hc⟩
    obtain ⟨c, t, e1, e2⟩ := hg.again he
    obtain ⟨l', c', e3⟩ := hs (glue r) line (col + x.length)
    have hi := ih (fun p hp => h1 p (by simp [hp])) (fun i p hp hl => h2 (i + 1) p (by simpa using hp) (by simp; omega)) (fun p hp => h3 p (by
      cases r with
      | nil => cases hp
      | cons q r' => rw [List.getLast?_cons_cons]; exact hp)) l' c'
    rw [glue, e1, tk_tok e2, shape_push]
    have e4 : (c :: t).drop x.length = s ++ glue r := by rw [← e1]; exact List.drop_left
    have e5 : (c :: t).take x.length = x := by rw [← e1]; exact List.take_left
    rw [e4, e5, e3, hi]
    rfl
theorem toks_good : ∀ (f : Nat) (r : List UInt8) (line col : Nat) (l : List Tkn), toks f r line col = .ok l → ∀ t ∈ l, GoodT t.kind t.text := by
  intro f
  induction f with
  | zero => intro r line col l h t ht; unfold toks at h; injection h with h; subst h; cases ht
  | succ f ih =>
    intro r line col l h t ht
    cases r with
    | nil => unfold toks at h; injection h with h; subst h; cases ht
    | cons c s =>
      unfold toks at h
      split at h
      · exact ih _ _ _ _ h t ht
      · split at h
        · exact ih _ _ _ _ h t ht
        · split at h
          · exact ih _ _ _ _ h t ht
          · split at h
            · cases h
            · rename_i k n hf
              cases hx : toks f ((c :: s).drop n) line (col + n) with
              | err x => rw [hx] at h; cases h
              | ok l' =>
                rw [hx] at h
                injection h with h
                subst h
                rcases List.mem_cons.1 ht with e | e
                · subst e; exact ⟨_, _, hf, rfl⟩
                · exact ih _ _ _ _ hx t e
end Bn

namespace Go.Proofs.YtfbigmdpdcpkfaaGreatDoor
open Go Go.RowKit Bn
attribute [local go_sem ↓] Go.wp_at_zero Go.wp_at_succ
theorem l_alike (w : World) (A : Option Addr) (n c : Nat) (l : List Tkn) (h : TkS w A n c l) (A' : Option Addr) (n' c' : Nat) (l' : List Tkn) (h' : TkS w A' n' c' l') (hll : l.map (fun t => (t.kind, t.text)) = l'.map (fun t => (t.kind, t.text))) (hn : n < 1000000000000) : Calls Tryz.prog 15 #[.slice A n c, .slice A' n' c'] w (RetV w (.bool true)) := by
 obtain rfl : n = n' := by rw [← h.1, ← h'.1]; simpa using congrArg List.length hll
 go_enter Tryz.func15, Tryz.ntmps15
 go_wp2_with fail
 go_loopw [5] (fun iv wr => ∃ i : Nat, iv = .int .i64 (i : Nat) ∧ i ≤ n ∧ Below w.heap.size w wr) (fun iv _ => n - (intOf iv).toNat)
 case atStart => exact ⟨0, rfl, Nat.zero_le _, brefl w⟩
 case round =>
  obtain ⟨i, rfl, hi, hb⟩ := hrel
  rcases Nat.lt_or_ge i n with hlt | hge
  ·have hi1 : ((i : Int) < (n : Int)) = True := by simp; omega
   obtain ⟨g, t, e, hc, ht, c0, c1, c2, c3⟩ := (h.belw hb).cells hlt
   obtain ⟨g', t', e', hc', ht', d0, d1, d2, d3⟩ := (h'.belw hb).cells hlt
   have hkt : (t.kind, t.text) = (t'.kind, t'.text) := by
    have h9 := congrArg (·[i]?) hll
    simp only [List.getElem?_map, ht, ht', Option.map_some] at h9
    exact Option.some.inj h9
   injection hkt with hk1 hk2
   rw [← hk1] at d0
   rw [← hk2] at d1
   subst e e'
   have H := Lib.hid h
   have H' := Lib.hid h'
   clear h h' ht ht'
   go_wp2_with fail
   go_quiet (fail)
   go_wp2_with fail
   go_roundw
   case rel => exact ⟨i + 1, by go_num, by omega, below_drewN hb _⟩
   case measure => simp [intOf]; omega
  ·have hi1 : ((i : Int) < (n : Int)) = False := by simp; omega
   have H := Lib.hid h
   have H' := Lib.hid h'
   clear h h'
   go_wp2_with fail
   go_ret
   exact ⟨rfl, hb⟩
end Go.Proofs.YtfbigmdpdcpkfaaGreatDoor

namespace Go.Proofs.YtfbigmdpdcpkfaaGreatDoor
open Go Go.RowKit Bn
attribute [local go_sem ↓] Go.wp_at_zero Go.wp_at_succ
def joinT : List (List UInt8) → List UInt8
  | [] => []
  | [x] => x
  | x :: y :: r => x ++ 32 :: joinT (y :: r)
theorem joinT_eq (xs : List (List UInt8)) : Lib.join xs [32] = joinT xs := by
  induction xs with
  | nil => rfl
  | cons x r ih =>
    cases r with
    | nil => rw [Lib.join_one]; rfl
    | cons y r =>
      rw [joinT, ← ih]
      rw [Lib.join_cons, Lib.join_cons]
      simp [Lib.joinTail]
end Go.Proofs.YtfbigmdpdcpkfaaGreatDoor

namespace Go.Proofs.YtfbigmdpdcpkfaaGreatDoor
open Go Go.RowKit Bn
attribute [local go_sem ↓] Go.wp_at_zero Go.wp_at_succ
def strCs (l : List (List UInt8)) : List Value := l.map strV
theorem news2 (w : World) (o : Obj) (cs : Array Value) (t : TypeId) : ∀ j u, cs.toList[j]? = some u → ((w.alloc o).alloc (.cells cs t)).cell? ((⟨w.heap.size + 1, 0, none⟩ : Addr).add j) = some u := by
  have := World.news_of_block (heap_alloc_new (w.alloc o) (.cells cs t))
  simpa using this
theorem toL_v (l : List UInt8) : (⟨l.toArray⟩ : ByteArray).data.toList = l := by simp
theorem join18_v (w : World) (g cap n : Nat) (L : List (List UInt8)) (hL : L.length = n) (hcells : ∀ (j : Nat) x, L[j]? = some x → w.cell? ⟨g, j, none⟩ = some (strV x)) (hg : g < w.heap.size) (hN : n ≤ 140737488355328) (hcap : n ≤ cap) (hlen : (joinT L).length ≤ 140737488355328) :
    Calls Tryz.prog 49 #[.slice (some ⟨g, 0, none⟩) n cap, .string ⟨#[32]⟩] w (RetV w (strV (joinT L))) := by
  subst hL
  have e : (L.map fun x => (⟨x.toArray⟩ : ByteArray)).map (·.data.toList) = L := by
    rw [List.map_map]
    conv => rhs; rw [← List.map_id L]
    exact List.map_congr_left fun x _ => toL_v x
  have h := Tryz.strings_Join g 0 cap (L.map fun x => ⟨x.toArray⟩) ⟨#[32]⟩ w (fun j x hx => by
    rw [List.getElem?_map, Option.map_eq_some_iff] at hx
    obtain ⟨y, hy, rfl⟩ := hx
    rw [Nat.zero_add]
    exact hcells j y hy) hg (by rw [List.length_map]; exact hN) (by rw [List.length_map]; exact hcap) (by rw [e]; show (Lib.join L [32]).length ≤ _; rw [joinT_eq]; exact hlen)
  rw [List.length_map, e] at h
  refine h.mono fun e' w' ⟨he, hb⟩ => ⟨?_, hb⟩
  rw [he]
  show Ending.returned (.string ⟨(Lib.join L [32]).toArray⟩) = _
  rw [joinT_eq]
theorem t_join (w : World) (A : Option Addr) (n c : Nat) (l : List Tkn) (h : TkS w A n c l) (hn : n < 1000000000000) (hlen : (joinT (l.map Tkn.text)).length ≤ 140737488355328) : Calls Tryz.prog 23 #[.slice A n c] w (RetV w (strV (joinT (l.map Tkn.text)))) := by
 obtain ⟨i0, hi0, hz0, hz1, hz2⟩ := info_parts info_str
 have HI := Lib.hid (And.intro hi0 (And.intro hz0 (And.intro hz1 hz2)))
 clear hi0 hz0 hz1 hz2
 go_enter Tryz.func23, Tryz.ntmps23
 go_wp2_with fail
 go_loopw [3, 8] (fun ov iv wr => ∃ i : Nat, iv = .int .i64 (i : Nat) ∧ i ≤ n ∧ wr.ownsRow w.heap.size 9 1 ov i (strCs ((l.take i).map Tkn.text)) ∧ Below w.heap.size w wr) (fun _ iv _ => n - (intOf iv).toNat)
 case atStart => exact ⟨0, rfl, Nat.zero_le _, ⟨rfl, .inl ⟨rfl, rfl⟩⟩, brefl w⟩
 case round =>
  obtain ⟨i, rfl, hi, hown, hb⟩ := hrel
  have HO := Lib.hid hown
  clear hown
  have hlen9 := h.1
  rcases Nat.lt_or_ge i n with hlt | hge
  ·have hi1 : ((i : Int) < (n : Int)) = True := by simp; omega
   obtain ⟨g, t, e, hc, ht, c0, c1, c2, c3⟩ := (h.belw hb).cells hlt
   have hgl : g < wr.heap.size := World.block_lt_of_cell? wr _ c0
   subst e
   have H := Lib.hid h
   have htk : l.take (i + 1) = l.take i ++ [t] := by rw [List.take_add_one, ht]; rfl
   have hR : strCs ((l.take (i + 1)).map Tkn.text) = strCs ((l.take i).map Tkn.text) ++ [strV t.text] := by rw [htk]; simp [strCs]
   have HR := Lib.hid hR
   have hbs := hb.size
   clear h htk hR ht hlen
   go_wp2_with (at_builtin; refine wpList_append_lies _ rfl _ _ _ rfl w.heap.size 9 i0 (.string ⟨#[]⟩) 1 16 Tryz.underlying35 HI.out.1 HI.out.2.1 HI.out.2.2.1 HI.out.2.2.2 rfl (by omega) _ i (strCs ((l.take i).map Tkn.text)) rfl ((HO.out.alloc _).alloc _) ⟨wr.heap.size + 1, 0, none⟩ 1 1 [_] rfl rfl (news2 wr _ _ _) (by simp [Value.oneCell']) (by omega) (by unfold maxLen; omega) (by omega) (by simp; omega) (wr.heap.size + 1 + 1) (by simp) ?_; intro gx cap w9 hown1 hgrow hat hlt1)
   go_roundw
   case rel => exact ⟨i + 1, by go_num, by omega, by rw [HR.out]; exact hown1, ((hb.alloc hb.size _).alloc (by simp; omega) _).grown hgrow (by simp; omega) (own_base HO.out)⟩
   case measure => simp [intOf]; omega
  ·have hi1 : ((i : Int) < (n : Int)) = False := by simp; omega
   have hR : l.take i = l := List.take_of_length_le (by omega)
   rw [hR] at HO
   obtain rfl : i = n := by omega
   have H := Lib.hid h
   clear h hR
   rcases HO.out.2 with ⟨rfl, h0⟩ | ⟨g, cap, cur, rfl, hbg, hg, hnc, hcm, hcs, hct⟩
   ·have hl0 : l = [] := List.eq_nil_of_length_eq_zero (by omega)
    subst h0
    go_wp2_with fail
    (with_reducible refine (Tryz.strings_Join_none none 0 ⟨#[32]⟩ wr).mono ?_); rintro e w' ⟨rfl, rfl⟩
    go_wp2_with fail
    go_ret
    exact ⟨by rw [hl0]; rfl, hb⟩
   ·have hcl : g < wr.heap.size := lt_of_block hg
    have HC : Hid (∀ (j : Nat) x, (l.map Tkn.text)[j]? = some x → wr.cell? ⟨g, j, none⟩ = some (strV x)) := Lib.hid (fun j x hx => by
     rw [cell_of_row wr g j cur _ (0, 0) hg]
     have h9 : (strCs (l.map Tkn.text))[j]? = some (strV x) := by unfold strCs; rw [List.getElem?_map, hx]; rfl
     rw [← hct, List.getElem?_take] at h9
     split at h9
     ·simpa using h9
     ·cases h9)
    clear hg hct hcs
    go_wp2_with fail
    (with_reducible refine (join18_v wr g cap i (l.map Tkn.text) (by rw [List.length_map]; exact hlen9) HC.out hcl (by omega) hnc hlen).mono ?_); rintro e w9 ⟨rfl, hb9⟩
    go_wp2_with fail
    go_ret
    exact ⟨rfl, hb.trans (hb9.mono hb.size)⟩
end Go.Proofs.YtfbigmdpdcpkfaaGreatDoor

namespace Go.Proofs.YtfbigmdpdcpkfaaGreatDoor
open Go Go.RowKit Bn
theorem joinT_len : ∀ (l : List Tkn), (joinT (l.map Tkn.text)).length ≤ (l.map fun t => t.text.length).sum + l.length
  | [] => by simp [joinT]
  | [t] => by simp [joinT]
  | t :: u :: r => by
    have h := joinT_len (u :: r)
    show (t.text ++ 32 :: joinT ((u :: r).map Tkn.text)).length ≤ _
    simp only [List.length_append, List.length_cons, List.map_cons, List.sum_cons] at h ⊢
    omega
def joinL : List Tkn → List (Nat × List UInt8 × List UInt8)
  | [] => []
  | [t] => [(t.kind, t.text, [])]
  | t :: u :: r => (t.kind, t.text, [32]) :: joinL (u :: r)
theorem joinL_glue : ∀ (l : List Tkn), glue (joinL l) = joinT (l.map Tkn.text)
  | [] => rfl
  | [t] => by simp [joinL, glue, joinT]
  | t :: u :: r => by
    have h := joinL_glue (u :: r)
    show t.text ++ ([32] ++ glue (joinL (u :: r))) = t.text ++ 32 :: joinT ((u :: r).map Tkn.text)
    rw [h]; rfl
theorem joinL_map : ∀ (l : List Tkn), (joinL l).map (fun p => (p.1, p.2.1)) = l.map fun t => (t.kind, t.text)
  | [] => rfl
  | [t] => rfl
  | t :: u :: r => by
    have h := joinL_map (u :: r)
    show (t.kind, t.text) :: (joinL (u :: r)).map _ = _
    rw [h]; rfl
theorem joinL_mem : ∀ {l : List Tkn} {p : Nat × List UInt8 × List UInt8}, p ∈ joinL l → (∃ t ∈ l, p.1 = t.kind ∧ p.2.1 = t.text) ∧ (p.2.2 = [] ∨ p.2.2 = [32])
  | [], _, h => by cases h
  | [t], p, h => by
    have : p = (t.kind, t.text, []) := by simpa [joinL] using h
    subst this
    exact ⟨⟨t, by simp, rfl, rfl⟩, .inl rfl⟩
  | t :: u :: r, p, h => by
    rcases List.mem_cons.1 h with e | e
    · subst e; exact ⟨⟨t, by simp, rfl, rfl⟩, .inr rfl⟩
    · obtain ⟨⟨x, hx, h1⟩, h2⟩ := joinL_mem (l := u :: r) e
      exact ⟨⟨x, List.mem_cons_of_mem _ hx, h1⟩, h2⟩
theorem joinL_inner : ∀ {l : List Tkn} {i : Nat} {p : Nat × List UInt8 × List UInt8}, (joinL l)[i]? = some p → i + 1 < (joinL l).length → p.2.2 = [32]
  | [], i, p, h, hl => by simp [joinL] at hl
  | [t], i, p, h, hl => by simp [joinL] at hl
  | t :: u :: r, 0, p, h, hl => by
    have : (t.kind, t.text, [32]) = p := by simpa [joinL] using h
    subst this; rfl
  | t :: u :: r, i + 1, p, h, hl => joinL_inner (l := u :: r) (i := i) (by simpa [joinL] using h) (by simp only [joinL, List.length_cons] at hl ⊢; omega)
theorem shape_ok {x : Toks} {L : List (Nat × List UInt8)} (h : Bn.shape x = some L) : ∃ m, x = .ok m ∧ m.map (fun t => (t.kind, t.text)) = L := by
  cases x with
  | ok m => exact ⟨m, rfl, Option.some.inj h⟩
  | err n => cases h
theorem join_again {s : List UInt8} {l : List Tkn} (h : tokens s = .ok l) (hl : s.length ≤ 3000) : ∃ m, SplitOut (joinT (l.map Tkn.text)) 0 m ∧ l.map (fun t => (t.kind, t.text)) = m.map fun t => (t.kind, t.text) := by
  have hg := toks_good _ _ _ _ _ h
  have hs := glue_tk (L := joinL l) (fun p hp => by
    obtain ⟨⟨t, ht, e1, e2⟩, e3⟩ := joinL_mem hp
    refine ⟨by rw [e1, e2]; exact hg t ht, ?_⟩
    rcases e3 with e | e <;> rw [e]
    · exact Skip.nil
    · exact Skip.blank (by decide) Skip.nil) (fun i p hp hi => ⟨32, [], joinL_inner hp hi, by decide⟩) (fun p hp => by
    obtain ⟨_, e3⟩ := joinL_mem (List.mem_of_getLast? hp)
    rcases e3 with e | e
    · exact .inl e
    · exact .inr ⟨32, [], e, by decide⟩) 1 1
  rw [joinL_glue, joinL_map] at hs
  obtain ⟨m, hm, he⟩ := shape_ok hs
  have h1 := joinT_len l
  have h2 := tokens_len h
  exact ⟨m, .ok (by omega) hm rfl, he.symm⟩
end Go.Proofs.YtfbigmdpdcpkfaaGreatDoor

namespace Go.Proofs.YtfbigmdpdcpkfaaGreatDoor
open Go Go.RowKit Bn
attribute [local go_sem ↓] Go.wp_at_zero Go.wp_at_succ
theorem l_TokenReturns (w : World) (s : List UInt8) (_ : s.length < 9223372036854775808) (_ : Tab w) (hmx : Mx w) : Calls Tryz.prog 9 #[strV s] w (RetV w (.bool true)) := by

 by_cases h1 : 3000 < s.length
 ·have f1 : ((3000 : Int) < (s.length : Int)) = True := eq_true (by omega)
  go_enter Tryz.func9, Tryz.ntmps9
  go_wp2_with fail
  (with_reducible refine (l18_awake w hmx).mono ?_); rintro e w1 ⟨rfl, hb1⟩
  have hmx1 := hmx.belw hb1
  go_wp2_with fail
  (with_reducible refine (l18_awake w1 hmx1).mono ?_); rintro e w2 ⟨rfl, hb2⟩
  have bw2 := hb1.trans (hb2.mono hb1.size)
  go_wp2_with fail
  go_ret
  exact retB rfl bw2
 ·have f1 : ((3000 : Int) < (s.length : Int)) = False := eq_false (by omega)
  rcases splitOut_small (s := s) (by omega) with ⟨k, hk, hx⟩ | ⟨l, ht, hx⟩
  ·have HX := Lib.hid hx
   clear hx
   go_enter Tryz.func9, Tryz.ntmps9
   go_wp2_with fail
   (with_reducible refine (l18_awake w hmx).mono ?_); rintro e w1 ⟨rfl, hb1⟩
   go_wp2_with fail
   (with_reducible refine (t_split_x w1 s _ _ HX.out).mono ?_); rintro e w2 ⟨A, n, c, rfl, hS, hb2⟩
   have bw2 := hb1.trans (hb2.mono hb1.size)
   rw [errV_pos hk]
   clear hS hb2 hb1
   go_wp2_with fail
   go_ret
   exact retB rfl bw2
  ·have hll := hx.len
   obtain ⟨m, hm, hmap⟩ := join_again ht (by omega)
   have hjl : (joinT (l.map Tkn.text)).length ≤ 140737488355328 := by
    have h3 := joinT_len l
    have h4 := tokens_len ht
    omega
   have HX := Lib.hid hx
   have HM := Lib.hid hm
   have HMAP := Lib.hid hmap
   have HJ := Lib.hid hjl
   clear hx hm hmap hjl
   go_enter Tryz.func9, Tryz.ntmps9
   go_wp2_with fail
   (with_reducible refine (l18_awake w hmx).mono ?_); rintro e w1 ⟨rfl, hb1⟩
   go_wp2_with fail
   (with_reducible refine (t_split_x w1 s _ _ HX.out).mono ?_); rintro e w2 ⟨A, n, c, rfl, hS, hb2⟩
   have hnl : n < 1000000000000 := by have := hS.1; omega
   have bw2 := hb1.trans (hb2.mono hb1.size)
   have HS := Lib.hid hS
   clear hS hb2 hb1
   rw [errV_0]
   go_wp2_with fail
   (with_reducible refine (t_join w2 A n c l HS.out hnl HJ.out).mono ?_); rintro e w3 ⟨rfl, hb3⟩
   have bw3 := bw2.trans (hb3.mono bw2.size)
   have HS2 := Lib.hid (HS.out.belw hb3)
   clear hb3 HS bw2
   go_wp2_with fail
   (with_reducible refine (t_split_x w3 _ _ _ HM.out).mono ?_); rintro e w4 ⟨A4, n4, c4, rfl, hS4, hb4⟩
   have bw4 := bw3.trans (hb4.mono bw3.size)
   have HS3 := Lib.hid (HS2.out.belw hb4)
   have HS4 := Lib.hid hS4
   clear HS2 hS4 hb4 bw3
   rw [errV_0]
   go_wp2_with fail
   (with_reducible refine (l_alike w4 A n c l HS3.out A4 n4 c4 m HS4.out HMAP.out hnl).mono ?_); rintro e w5 ⟨rfl, hb5⟩
   have bw5 := bw4.trans (hb5.mono bw4.size)
   go_wp2_with fail
   go_ret
   exact retB rfl bw5
end Go.Proofs.YtfbigmdpdcpkfaaGreatDoor

/- TokenReturns: joined tokens are split into the same kinds and texts; for every input the law returns true. The listed library variables are tied to the program text. -/
namespace Go.Proofs.YtfbigmdpdcpkfaaGreatDoor
open Go Go.RowKit Bn Go.ChangeShapes Go.WideShapes Go.ChangeAt
theorem returns_contract (H : Type) (enc : TypeId × Value → H) (W : World) (base : Nat) (args : Array Value) (ds gs : List (DataW H)) (before : List MemPlace)
    (hval0 : ∀ (j : Nat) t v, Tryz.f9.params[j]? = some t → args[j]? = some v → Value.okWide Tryz.prog W .any base t v)
    (hW : DataW.Whole enc Tryz.prog Tryz.f9.params.toList Rows.tokenReturnsSpec.vars false W args.toList ds gs before) (hL : laidMetH Tryz.prog Rows.tokenReturnsRow.laid W) (hsh : W.ShapedOpen Tryz.prog) :
    Calls Tryz.prog 9 args W fun e W' => ∃ v, e = .returned v ∧ Rows.tokenReturnsSpec.post enc Tryz.prog Tryz.f9 false true false false W args v W' := by
  have hval : ∀ (j : Nat) t v, Tryz.f9.params[j]? = some t → args[j]? = some v → Value.okWide Tryz.prog W .any base t v := hval0
  have htab : Tab W := tab_of_laid hL
  have hmx : Mx W := mx_of_shaped hsh
  have hW' := hW
  obtain ⟨p, q, hA0, hV, rfl, hfz, hnd⟩ := hW
  have hA : DataW.TrodAll enc Tryz.prog W 0 (fun _ => true) true Tryz.f9.params.toList args.toList ds p := hA0
  rw [Tryz.params9] at hA hval
  obtain ⟨v0, d0, rfl, rfl, h0⟩ := trodAll_one hA
  obtain ⟨rfl, rfl⟩ := trodVars_none hV
  obtain ⟨s, rfl, rfl, rfl, hs⟩ := Go.ChangeMaps.open_string Tryz.underlying9 (hval 0 _ v0 rfl rfl) h0
  obtain ⟨t, rfl⟩ : ∃ t : List UInt8, s = ⟨t.toArray⟩ := ⟨s.data.toList, by simp⟩
  have ht : t.length < 9223372036854775808 := by unfold maxLen at hs; have h9 : t.length ≤ _ := hs; omega
  refine (l_TokenReturns W t ht htab hmx).mono fun e W' ⟨he, hb⟩ => ?_
  subst he
  exact ⟨_, rfl, law_post laid_out Tryz.underlying4 hW' rfl rfl (by kernel_rfl) rfl rfl rfl hb⟩
theorem returns_lifted (os : Os) (started : os.Started) (H : Type) (enc : TypeId × Value → H) (F : Stop.Interp) :
    ReturnsInHanded {} Tryz.checked os 9 .any ((OpenSpec.ofChange Rows.tokenReturnsSpec).preRow enc Tryz.prog Tryz.f9 Rows.tokenReturnsRow.domain false Rows.tokenReturnsRow.laid) (((OpenSpec.ofChange Rows.tokenReturnsSpec).at F).post enc Tryz.prog Tryz.f9 false true false false) := by
  have hx : DataW.whole enc Tryz.prog ((laidWorld os).forCall (fun _ _ => 0) ⟨#[], #[.string ⟨#[]⟩], []⟩).memory Tryz.f9.params.toList Rows.tokenReturnsSpec.vars false (#[.string ⟨#[]⟩] : Array Value).toList 8 = some ([.lit (.string [])], [], []) := by kernel_rfl
  have hl : laidMet Tryz.prog Rows.tokenReturnsRow.laid ((laidWorld os).forCall (fun _ _ => 0) ⟨#[], #[.string ⟨#[]⟩], []⟩).memory := laidMet_of_run' 8 (by kernel_rfl) (by kernel_rfl)
  refine returnsInHanded_of_row (C := Tryz.checked) (s := OpenSpec.ofChange Rows.tokenReturnsSpec) own_knob started (by kernel_rfl) Tryz.func9
    (witness_row_at (enc := enc) (C := Tryz.checked) false (laidWorld os) #[.string ⟨#[]⟩] rfl (by kernel_rfl) (by kernel_rfl) (by kernel_rfl)
      (OpenSpec.preRow_of_cond 8 hx (by kernel_rfl) (fun k hk => by cases hk) (by kernel_rfl) hl)) ?_
  intro W base args ds gs before hval hW _ _ _ hL hsh _
  exact returns_contract H enc W base args ds gs before hval hW hL hsh
theorem returns_j2 : (Rows.tokenReturnsRow.inPlace == Tryz.pinned.checked.prog.inPlace 9) = true := by kernel_rfl
theorem returns_j3 : (Rows.tokenReturnsRow.unfollowed == Tryz.pinned.checked.prog.unfollowed 9) = true := by kernel_rfl
theorem returns_j4 : (Rows.tokenReturnsRow.recurses == Tryz.pinned.checked.prog.recurses 9) = true := by kernel_rfl
theorem returns_j5 : (Rows.tokenReturnsRow.named == Tryz.pinned.checked.prog.varsNamed 9) = true := by kernel_rfl
theorem returns_joined : joinedFacts Tryz.pinned.checked.prog 9 Tryz.f9 (OpenSpec.ofChange Rows.tokenReturnsSpec).bare Rows.tokenReturnsRow = true := joined_parts (by kernel_rfl) returns_j2 returns_j3 returns_j4 returns_j5 (by kernel_rfl)
theorem returns_inst : Tryz.f9.isInstance Tryz.pinned.checked.prog Rows.tokenReturnsRow.origin Rows.tokenReturnsRow.targs := of_decide_eq_true (by kernel_rfl)
theorem returns_said : Rows.TokenReturnsSaid :=
  OpenClaim.holds_of_cond 9 Tryz.f9 rfl rfl rfl rfl rfl rfl rfl ⟨rfl, rfl, rfl, rfl, rfl⟩ rfl rfl rfl rfl rfl (by kernel_rfl) Tryz.func9 returns_joined
    returns_inst (by unfold Func.isWrapper; first | (rw [if_pos (by decide +kernel)]; kernel_rfl) | (rw [if_neg (by decide +kernel)]; exact ⟨rfl, rfl⟩))
    (fun os started H enc _ F => by rw [OpenClaim.pre_eq_preRow]; exact returns_lifted os started H enc F)
theorem returns_plain (f : FuncId) (fn : Func) (hf : Tryz.pinned.checked.prog.funcNamed "linkwork/linkworklaw18.TokenReturns" = some f) (hfn : Tryz.pinned.checked.prog.funcs[f]? = some fn) :
    true = Tryz.pinned.checked.prog.looks [] ∧ ∀ (j : Nat) t, fn.params[j]? = some t → Tryz.pinned.checked.prog.wantsStandIn t = false := by
  obtain rfl : f = 9 := Option.some.inj ((show Tryz.prog.funcNamed "linkwork/linkworklaw18.TokenReturns" = some 9 by kernel_rfl).symm.trans hf) |>.symm
  obtain rfl : fn = Tryz.f9 := (Option.some.inj (Tryz.func9.symm.trans hfn)).symm
  refine ⟨by kernel_rfl, fun j t ht => ?_⟩
  rw [Tryz.params9] at ht
  have hm : t ∈ [9] := by
    have := Array.mem_of_getElem? ht
    simp at this ⊢
    first
      | exact this
      | exact .inl this
  have hall : ([9].all fun u => !Tryz.prog.wantsStandIn u) = true := by kernel_rfl
  exact (show Tryz.prog.wantsStandIn t = false by simpa using List.all_eq_true.1 hall t hm)
theorem returns_holds : Rows.TokenReturnsCardSaid :=
  Claim7.holds_tied_plain_at .later [] _ _ _ _ returns_said (fun _ h => by cases h) (by kernel_rfl) (fun _ h => by cases h) tokenReturns_row_tie rfl ⟨rfl, rfl⟩ (by kernel_rfl) rfl returns_plain (by kernel_rfl)
end Go.Proofs.YtfbigmdpdcpkfaaGreatDoor
