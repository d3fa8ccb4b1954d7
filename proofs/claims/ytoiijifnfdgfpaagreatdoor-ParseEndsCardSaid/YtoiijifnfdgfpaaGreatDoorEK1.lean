/- ParseEnds: a text that is read is not read with a word more, nor without its last token; for every input the law returns true. The listed library variables are tied to the program text. -/
import Derived.Below
import Derived.Laws.OwnMore
import Derived.Deep.Draws
import Derived.OneCell
import Derived.Laws.Rows
import Derived.Test.YtoiijifnfdgfpaaGreatDoorProg
import Derived.WalkKit
import Derived.WalkSpells
import Derived.WalkLawsBesides
import Derived.BigQuiet
import Derived.Deep.QuietTactic
import Derived.Deep.AppendLies
import Derived.Lib.Hide
import Derived.Deep.RegionHeld3
import Derived.Deep.DrawnRows
import Derived.Shelf.Strings.Builder1
import Derived.Shelf.Strings.Builder2
import Derived.Shelf.Strings.OnBuilder
import Derived.Shelf.Strings.Trim
import Derived.Shelf.Small.Utf8
import Derived.Shelf.Small.Bits
import Derived.Shelf.Small.Strs
import Derived.Shelf.Small.Wraps
import Derived.Shelf.Strings.BuilderF
import Derived.Shelf.Strings.BuilderK
import Derived.Shelf.Strings.Builder2Cap
import Derived.Shelf.Strconv.Atoi
import Derived.Shelf.Strconv.Itoa0
import Derived.Shelf.Strconv.Itoa1
import Derived.Shelf.LaysM
import Derived.Shelf.Strconv.Itoa2
import Derived.Shelf.Strconv.Itoa3
import Derived.Shelf.Strings.Search1
import Derived.Shelf.Strings.Search2
import Derived.Shelf.Strings.Cut
import Derived.Shelf.Strings.Shaped
import Derived.Shelf.Strings.Prefix
import Derived.Shelf.Strings.Runes
import Derived.Shelf.Strings.AsciiSet
import Derived.Shelf.Bits.Mul64
import Derived.Shelf.Strings.Repeat
import Derived.Shelf.Unicode.DecodeSlow
import Derived.Shelf.Strings.BuilderCap
import Derived.IntWalk
import Derived.Deep.DeepCutAuto
import Derived.Deep.RegionHeld
import Derived.Lib.ItoaNum
import Derived.Lib.ItoaMem
import Derived.Lib.Repeat
import Derived.Lib.Join
import Derived.Lib.Atoi
import Derived.Lib.SlTrimSet
import Derived.Lib.AppendIntMem
import Derived.Shelf.Strings.SlTrimAscii
import Derived.Lib.IndexMore
import Derived.Laws.StructEq
import Derived.Test.YtoiijifnfdgfpaaGreatDoorCards
import Derived.Test.YtoiijifnfdgfpaaGreatDoorTie
import Derived.ProofKit
import Derived.OpenShut
import Derived.Deep.DeepHandedRow
import Derived.Lib.LaidTab
import Derived.Shelf.Vars
import Derived.ChangeMaps5
import Derived.Test.YtoiijifnfdgfpaaGreatDoorA5
set_option linter.unusedVariables false
set_option maxHeartbeats 8000000
set_option maxRecDepth 100000
namespace Go.Proofs
open Go.Shelf
def Tryz.lays156_ren : Go.Shelf.Ren := ⟨fun | 156 => 68 | 165 => 115 | 166 => 40 | 169 => 44 | 240 => 83 | 241 => 156 | 276 => 138 | 277 => 199 | n => n, fun | 31 => 49 | 9 => 9 | 3 => 3 | 4 => 4 | 0 => 0 | 20 => 20 | 72 => 89 | 76 => 90 | 70 => 86 | 37 => 87 | 75 => 26 | 127 => 140 | 164 => 182 | 5 => 5 | 80 => 95 | n => n, fun | n => n⟩
theorem Tryz.lays156 : Go.Proofs.Lays.n156 Tryz.prog Tryz.lays156_ren := {
  mixed := by kernel_rfl
  f156 := Tryz.func68.trans (congrArg some (by kernel_rfl))
  f165 := Tryz.func115.trans (congrArg some (by kernel_rfl))
  f166 := Tryz.func40.trans (congrArg some (by kernel_rfl))
  f169 := Tryz.func44.trans (congrArg some (by kernel_rfl))
  f240 := Tryz.func83.trans (congrArg some (by kernel_rfl))
  f241 := Tryz.func156.trans (congrArg some (by kernel_rfl))
  f276 := Tryz.func138.trans (congrArg some (by kernel_rfl))
  f277 := Tryz.func199.trans (congrArg some (by kernel_rfl))
  t0 := Tryz.underlying0
  a0 := Tryz.isAgg0
  z0 := Tryz.sizeOf0
  v0 := Tryz.zeroValue0
  t3 := Tryz.underlying3
  a3 := Tryz.isAgg3
  z3 := Tryz.sizeOf3
  v3 := Tryz.zeroValue3
  t4 := Tryz.underlying4
  a4 := Tryz.isAgg4
  z4 := Tryz.sizeOf4
  v4 := Tryz.zeroValue4
  t9 := Tryz.underlying9
  a9 := Tryz.isAgg9
  z9 := Tryz.sizeOf9
  v9 := Tryz.zeroValue9
  t20 := Tryz.underlying20
  a20 := Tryz.isAgg20
  z20 := Tryz.sizeOf20
  v20 := Tryz.zeroValue20
  t31 := Tryz.underlying49
  a31 := Tryz.isAgg49
  z31 := Tryz.sizeOf49
  v31 := Tryz.zeroValue49
  t37 := Tryz.underlying87
  a37 := Tryz.isAgg87
  z37 := Tryz.sizeOf87
  v37 := Tryz.zeroValue87
  t70 := Tryz.underlying86
  a70 := Tryz.isAgg86
  z70 := Tryz.sizeOf86
  v70 := Tryz.zeroValue86
  t72 := Tryz.underlying89
  a72 := Tryz.isAgg89
  z72 := Tryz.sizeOf89
  v72 := Tryz.zeroValue89
  t75 := Tryz.underlying26
  a75 := Tryz.isAgg26
  z75 := Tryz.sizeOf26
  v75 := Tryz.zeroValue26
  t76 := Tryz.underlying90
  a76 := Tryz.isAgg90
  z76 := Tryz.sizeOf90
  v76 := Tryz.zeroValue90
  t127 := Tryz.underlying140
  a127 := Tryz.isAgg140
  z127 := Tryz.sizeOf140
  v127 := Tryz.zeroValue140
  t164 := Tryz.underlying182
  a164 := Tryz.isAgg182
  z164 := Tryz.sizeOf182
  v164 := Tryz.zeroValue182 }
theorem Tryz.Builder_Extra_156 : Builder.Extra Tryz.prog Tryz.lays156_ren := {
  sizeBuilder := by kernel_rfl
  liesBuilder := by kernel_rfl
  t5 := Tryz.underlying5
  a5 := Tryz.isAgg5
  z5 := Tryz.sizeOf5
  v5 := Tryz.zeroValue5
  infoByte := by kernel_rfl
  cellsByte := by kernel_rfl
  sizeByte := by kernel_rfl
  neB5 := by decide }
open Go.RowKit in
theorem Tryz.strings_Join_none (a : Option Addr) (c : Nat) (sep : ByteArray) (w : World) :
    Calls Tryz.prog 68 #[.slice a 0 c, .string sep] w fun e w' => e = .returned (.string ⟨#[]⟩) ∧ w' = w := Any.strings_Join_none Tryz.lays156 Tryz.Builder_Extra_156 a c sep w
open Go.RowKit in
theorem Tryz.strings_Join (bk o c : Nat) (xs : List ByteArray) (sep : ByteArray) (w : World) (hcells : ∀ (j : Nat) x, xs[j]? = some x → w.cell? ⟨bk, o + j, none⟩ = some (.string x)) (hbk : bk < w.heap.size) (hN : xs.length ≤ 140737488355328) (hcap : xs.length ≤ c) (hlen : (Lib.join (xs.map (·.data.toList)) sep.data.toList).length ≤ 140737488355328) :
    Calls Tryz.prog 68 #[.slice (some ⟨bk, o, none⟩) xs.length c, .string sep] w fun e w' => e = .returned (.string ⟨(Lib.join (xs.map (·.data.toList)) sep.data.toList).toArray⟩) ∧ Below w.heap.size w w' := Any.strings_Join Tryz.lays156 Tryz.Builder_Extra_156 bk o c xs sep w hcells hbk hN hcap hlen
end Go.Proofs

namespace Go.Proofs.YtoiijifnfdgfpaaGreatDoor
open Go Go.RowKit Bn

theorem info_str : (Tryz.prog.info? 9).map (fun i => (i.zero, i.size, i.bytes)) = some (some (.string ⟨#[]⟩), 1, 16) := by kernel_rfl
end Go.Proofs.YtoiijifnfdgfpaaGreatDoor

namespace Go.Proofs.YtoiijifnfdgfpaaGreatDoor
open Go Go.RowKit Bn

theorem b_is (w : World) (x : Int) : Calls Tryz.prog 26 #[.iface 63 (.int .i64 x), .int .i64 x] w (RetV w (.bool true)) := by
 go_enter Tryz.func26, Tryz.ntmps26
 go_wp2_with (go_at_call 16; (with_reducible refine (b_num_err _ x).mono ?_); rintro e w1 ⟨rfl, hb1⟩)
 go_ret
 exact ⟨rfl, hb1⟩
end Go.Proofs.YtoiijifnfdgfpaaGreatDoor

namespace Go.Proofs.YtoiijifnfdgfpaaGreatDoor
open Go Go.RowKit Bn
attribute [local go_sem ↓] Go.wp_at_zero Go.wp_at_succ
theorem joinT_eq (xs : List (List UInt8)) : Lib.join xs [32] = joinT xs := by
  induction xs with
  | nil => rfl
  | cons x r ih =>
    cases r with
    | nil => rw [Lib.join_one]; rfl
    | cons y r =>
      rw [joinT, ← ih]
      rw [Lib.join_cons, Lib.join_cons]
      simp [Lib.joinTail]
end Go.Proofs.YtoiijifnfdgfpaaGreatDoor

namespace Go.Proofs.YtoiijifnfdgfpaaGreatDoor
open Go Go.RowKit Bn
attribute [local go_sem ↓] Go.wp_at_zero Go.wp_at_succ
theorem news2 (w : World) (o : Obj) (cs : Array Value) (t : TypeId) : ∀ j u, cs.toList[j]? = some u → ((w.alloc o).alloc (.cells cs t)).cell? ((⟨w.heap.size + 1, 0, none⟩ : Addr).add j) = some u := by
  have := World.news_of_block (heap_alloc_new (w.alloc o) (.cells cs t))
  simpa using this
theorem toL_v (l : List UInt8) : (⟨l.toArray⟩ : ByteArray).data.toList = l := by simp
theorem join18_v (w : World) (g cap n : Nat) (L : List (List UInt8)) (hL : L.length = n) (hcells : ∀ (j : Nat) x, L[j]? = some x → w.cell? ⟨g, j, none⟩ = some (strV x)) (hg : g < w.heap.size) (hN : n ≤ 140737488355328) (hcap : n ≤ cap) (hlen : (joinT L).length ≤ 140737488355328) :
    Calls Tryz.prog 68 #[.slice (some ⟨g, 0, none⟩) n cap, .string ⟨#[32]⟩] w (RetV w (strV (joinT L))) := by
  subst hL
  have e : (L.map fun x => (⟨x.toArray⟩ : ByteArray)).map (·.data.toList) = L := by
    rw [List.map_map]
    conv => rhs; rw [← List.map_id L]
    exact List.map_congr_left fun x _ => toL_v x
  have h := Tryz.strings_Join g 0 cap (L.map fun x => ⟨x.toArray⟩) ⟨#[32]⟩ w (fun j x hx => by
    rw [List.getElem?_map, Option.map_eq_some_iff] at hx
    obtain ⟨y, hy, rfl⟩ := hx
    rw [Nat.zero_add]
    exact hcells j y hy) hg (by rw [List.length_map]; exact hN) (by rw [List.length_map]; exact hcap) (by rw [e]; show (Lib.join L [32]).length ≤ _; rw [joinT_eq]; exact hlen)
  rw [List.length_map, e] at h
  refine h.mono fun e' w' ⟨he, hb⟩ => ⟨?_, hb⟩
  rw [he]
  show Ending.returned (.string ⟨(Lib.join L [32]).toArray⟩) = _
  rw [joinT_eq]
theorem t_join (w : World) (A : Option Addr) (n c : Nat) (l : List Tkn) (h : TkS w A n c l) (hn : n < 1000000000000) (hlen : (joinT (l.map Tkn.text)).length ≤ 140737488355328) : Calls Tryz.prog 30 #[.slice A n c] w (RetV w (strV (joinT (l.map Tkn.text)))) := by
 obtain ⟨i0, hi0, hz0, hz1, hz2⟩ := info_parts info_str
 have HI := Lib.hid (And.intro hi0 (And.intro hz0 (And.intro hz1 hz2)))
 clear hi0 hz0 hz1 hz2
 go_enter Tryz.func30, Tryz.ntmps30
 go_wp2_with fail
 go_loopw [3, 8] (fun ov iv wr => ∃ i : Nat, iv = .int .i64 (i : Nat) ∧ i ≤ n ∧ wr.ownsRow w.heap.size 9 1 ov i (strCs ((l.take i).map Tkn.text)) ∧ Below w.heap.size w wr) (fun _ iv _ => n - (intOf iv).toNat)
 case atStart => exact ⟨0, rfl, Nat.zero_le _, ⟨rfl, .inl ⟨rfl, rfl⟩⟩, brefl w⟩
 case round =>
  obtain ⟨i, rfl, hi, hown, hb⟩ := hrel
  have HO := Lib.hid hown
  clear hown
  have hlen9 := h.1
  rcases Nat.lt_or_ge i n with hlt | hge
  ·have hi1 : ((i : Int) < (n : Int)) = True := by simp; omega
   obtain ⟨g, t, e, hc, ht, c0, c1, c2, c3⟩ := (h.belw hb).cells hlt
   have hgl : g < wr.heap.size := World.block_lt_of_cell? wr _ c0
   subst e
   have H := Lib.hid h
   have htk : l.take (i + 1) = l.take i ++ [t] := by rw [List.take_add_one, ht]; rfl
   have hR : strCs ((l.take (i + 1)).map Tkn.text) = strCs ((l.take i).map Tkn.text) ++ [strV t.text] := by rw [htk]; simp [strCs]
   have HR := Lib.hid hR
   have hbs := hb.size
   clear h htk hR ht hlen
   go_wp2_with (at_builtin; refine wpList_append_lies _ rfl _ _ _ rfl w.heap.size 9 i0 (.string ⟨#[]⟩) 1 16 Tryz.underlying49 HI.out.1 HI.out.2.1 HI.out.2.2.1 HI.out.2.2.2 rfl (by omega) _ i (strCs ((l.take i).map Tkn.text)) rfl ((HO.out.alloc _).alloc _) ⟨wr.heap.size + 1, 0, none⟩ 1 1 [_] rfl rfl (news2 wr _ _ _) (by simp [Value.oneCell']) (by omega) (by unfold maxLen; omega) (by omega) (by simp; omega) (wr.heap.size + 1 + 1) (by simp) ?_; intro gx cap w9 hown1 hgrow hat hlt1)
   go_roundw
   case rel => exact ⟨i + 1, by go_num, by omega, by rw [HR.out]; exact hown1, ((hb.alloc hb.size _).alloc (by simp; omega) _).grown hgrow (by simp; omega) (own_base HO.out)⟩
   case measure => simp [intOf]; omega
  ·have hi1 : ((i : Int) < (n : Int)) = False := by simp; omega
   have hR : l.take i = l := List.take_of_length_le (by omega)
   rw [hR] at HO
   obtain rfl : i = n := by omega
   have H := Lib.hid h
   clear h hR
   rcases HO.out.2 with ⟨rfl, h0⟩ | ⟨g, cap, cur, rfl, hbg, hg, hnc, hcm, hcs, hct⟩
   ·have hl0 : l = [] := List.eq_nil_of_length_eq_zero (by omega)
    subst h0
    go_wp2_with fail
    (with_reducible refine (Tryz.strings_Join_none none 0 ⟨#[32]⟩ wr).mono ?_); rintro e w' ⟨rfl, rfl⟩
    go_wp2_with fail
    go_ret
    exact ⟨by rw [hl0]; rfl, hb⟩
   ·have hcl : g < wr.heap.size := lt_of_block hg
    have HC : Hid (∀ (j : Nat) x, (l.map Tkn.text)[j]? = some x → wr.cell? ⟨g, j, none⟩ = some (strV x)) := Lib.hid (fun j x hx => by
     rw [cell_of_row wr g j cur _ (0, 0) hg]
     have h9 : (strCs (l.map Tkn.text))[j]? = some (strV x) := by unfold strCs; rw [List.getElem?_map, hx]; rfl
     rw [← hct, List.getElem?_take] at h9
     split at h9
     ·simpa using h9
     ·cases h9)
    clear hg hct hcs
    go_wp2_with fail
    (with_reducible refine (join18_v wr g cap i (l.map Tkn.text) (by rw [List.length_map]; exact hlen9) HC.out hcl (by omega) hnc hlen).mono ?_); rintro e w9 ⟨rfl, hb9⟩
    go_wp2_with fail
    go_ret
    exact ⟨rfl, hb.trans (hb9.mono hb.size)⟩
end Go.Proofs.YtoiijifnfdgfpaaGreatDoor

namespace Go.Proofs.YtoiijifnfdgfpaaGreatDoor
open Go Go.RowKit Bn
attribute [local go_sem ↓] Go.wp_at_zero Go.wp_at_succ
theorem wrap_i64 {u : Int} (h1 : -9223372036854775808 ≤ u) (h2 : u ≤ 9223372036854775807) : IntKind.i64.wrap u = u := by rw [IntKind.wrap_i64]; omega
end Go.Proofs.YtoiijifnfdgfpaaGreatDoor

/- Reading, plain: tokens behind the ones that were read make no difference but at the end. -/
namespace Go.Proofs.YtoiijifnfdgfpaaGreatDoor
open Go Go.RowKit Bn
def PS.app (s : PS) (r : List Tkn) : PS := { s with toks := s.toks ++ r }
theorem Stp.ne18 {d : Nat} {a b : PS} (h : Stp d a b) (k : b.x ≠ 18) : a.x ≠ 18 := fun e => k (by rw [h.2.1 (by rw [e]; decide)]; exact e)
theorem ap_next (s : PS) (k : Nat) (r : List Tkn) (h : (s.next k).2.x ≠ 18) : (s.app r).next k = ((s.next k).1, (s.next k).2.app r) := by
  obtain ⟨T, L, x⟩ := s
  unfold PS.next PS.app at *
  simp only at *
  by_cases hx : x ≠ 0
  · rw [if_pos hx, if_pos hx]
  · rw [if_neg hx] at h ⊢
    rw [if_neg hx]
    cases T with
    | nil => exact absurd rfl h
    | cons t u =>
      simp only [List.cons_append]
      by_cases hk : t.kind = k
      · rw [if_pos hk, if_pos hk]; rfl
      · rw [if_neg hk, if_neg hk]; rfl
theorem ap_drop {s : PS} {t : Tkn} {u : List Tkn} (e : s.toks = t :: u) (r : List Tkn) : (s.app r).drop1 = s.drop1.app r := by
  unfold PS.drop1 PS.app
  rw [e]; rfl
theorem ap_fail (s : PS) (e : Int) (r : List Tkn) : (s.app r).fail e = (s.fail e).app r := by
  unfold PS.fail
  by_cases h : s.x = 0
  · rw [if_pos h, if_pos (show (s.app r).x = 0 from h)]; rfl
  · rw [if_neg h, if_neg (show ¬ (s.app r).x = 0 from h)]
theorem ap_word (s : PS) (r : List Tkn) (h : s.word.2.x ≠ 18) : (s.app r).word = (s.word.1, s.word.2.app r) := by
  rcases next_cases s 0 with ⟨t, u, hx, e, _, h1⟩ | ⟨s', h1, _⟩
  · have h2 := ap_next s 0 r (by rw [h1]; show s.x ≠ 18; rw [hx]; decide)
    unfold PS.word
    rw [h2, h1]
    exact congrArg (Prod.mk _) (ap_drop e r)
  · have e1 : s.word = ([], s') := by unfold PS.word; rw [h1]
    rw [e1] at h
    have h2 := ap_next s 0 r (by rw [h1]; exact h)
    rw [e1]
    unfold PS.word
    rw [h2, h1]
theorem ap_expect (s : PS) (k : Nat) (t : List UInt8) (r : List Tkn) (h : (s.expect k t).x ≠ 18) : (s.app r).expect k t = (s.expect k t).app r := by
  rcases next_cases s k with ⟨t0, u, hx, e, _, h1⟩ | ⟨s', h1, _⟩
  · have h2 := ap_next s k r (by rw [h1]; show s.x ≠ 18; rw [hx]; decide)
    unfold PS.expect
    rw [h2, h1]
    show (if t0.text = t then (s.app r).drop1 else (s.app r).fail 2) = (if t0.text = t then s.drop1 else s.fail 2).app r
    split
    · exact ap_drop e r
    · exact ap_fail s 2 r
  · have e1 : s.expect k t = s' := by unfold PS.expect; rw [h1]
    rw [e1] at h
    have h2 := ap_next s k r (by rw [h1]; exact h)
    rw [e1]
    unfold PS.expect
    rw [h2, h1]
theorem ap_number (s : PS) (r : List Tkn) (h : s.number.2.x ≠ 18) : (s.app r).number = (s.number.1, s.number.2.app r) := by
  rcases next_cases s 1 with ⟨t0, u, hx, e, _, h1⟩ | ⟨s', h1, _⟩
  · have h2 := ap_next s 1 r (by rw [h1]; show s.x ≠ 18; rw [hx]; decide)
    unfold PS.number
    rw [h2, h1]
    show (if valX t0.text ≠ 0 then (0, (s.app r).fail (valX t0.text)) else (valQ t0.text, (s.app r).drop1) : Rat × PS) = ((if valX t0.text ≠ 0 then (0, s.fail (valX t0.text)) else (valQ t0.text, s.drop1) : Rat × PS).1, (if valX t0.text ≠ 0 then (0, s.fail (valX t0.text)) else (valQ t0.text, s.drop1) : Rat × PS).2.app r)
    split
    · rw [ap_fail]
    · rw [ap_drop e]
  · have e1 : s.number = (0, s') := by unfold PS.number; rw [h1]
    rw [e1] at h
    have h2 := ap_next s 1 r (by rw [h1]; exact h)
    rw [e1]
    unfold PS.number
    rw [h2, h1]
theorem ap_mark (s : PS) (r : List Tkn) (h : s.mark.2.x ≠ 18) : (s.app r).mark = (s.mark.1, s.mark.2.app r) := by
  have h4 : (s.word.2.number.2.number.2.expect 2 [59]).x ≠ 18 := h
  have h3 := (expect_stp _ _ _).ne18 h4
  have h2 := (number_stp _).ne18 h3
  have h1 := (number_stp _).ne18 h2
  unfold PS.mark
  simp only [ap_word s r h1, ap_number _ r h2, ap_number _ r h3, ap_expect _ _ _ r h4]
theorem word_end {s : PS} (hx : s.x = 0) (e : s.toks = []) : s.word.2.x = 18 := by
  unfold PS.word PS.next
  rw [if_neg (by rw [hx]; simp), e]
theorem ap_sign {s : PS} (h : s.toks ≠ []) (r : List Tkn) : (s.app r).signHead = s.signHead := by
  obtain ⟨T, L, x⟩ := s
  unfold PS.signHead PS.app
  cases T with
  | nil => exact absurd rfl h
  | cons t u => rfl
theorem stay18 {d : Nat} {a b : PS} (h : Stp d a b) (k : a.x = 18) : b.x = 18 := by rw [h.2.1 (by rw [k]; decide)]; exact k
theorem mark_end {s : PS} (hx : s.x = 0) (e : s.toks = []) : s.mark.2.x = 18 :=
  stay18 (((number_stp s.word.2).trans (number_stp _)).trans (expect_stp _ 2 [59])) (word_end hx e)
theorem ap_marks (r : List Tkn) : ∀ (f g : Nat) (s : PS) (l : List MarkL), s.toks.length < f → s.toks.length + r.length < g → (PS.marks f s l).2.x ≠ 18 → PS.marks g (s.app r) l = ((PS.marks f s l).1, (PS.marks f s l).2.app r)
  | 0, g, s, l, hf, _, _ => by omega
  | f + 1, g, s, l, hf, hg, h => by
    by_cases hx : s.x = 0
    · cases hs : s.signHead
      · rw [marks_step (by omega) hx hs] at h ⊢
        have hm := (marks_stp _ _ _).ne18 h
        have hne : s.toks ≠ [] := fun e => hm (mark_end hx e)
        rw [marks_step (s := s.app r) (by omega) hx (by rw [ap_sign hne, hs]), ap_mark s r hm]
        by_cases hx2 : s.mark.2.x = 0
        · have := ((mark_stp s).2.2.1 hx2).2
          exact ap_marks r _ _ _ _ (by omega) (by omega) h
        · rw [marks_x hx2, marks_x (s := s.mark.2.app r) hx2]
      · have hne : s.toks ≠ [] := fun e => by
          unfold PS.signHead at hs
          rw [e] at hs
          cases hs
        rw [marks_end (by omega) hx hs] at h ⊢
        rw [marks_end (s := s.app r) (by omega) hx (by rw [ap_sign hne, hs]), ap_expect _ _ _ r h]
    · rw [marks_x hx, marks_x (s := s.app r) hx]
theorem ap_len (s : PS) (r : List Tkn) : (s.app r).toks.length = s.toks.length + r.length := by
  show (s.toks ++ r).length = _
  simp
theorem ap_body (s : PS) (r : List Tkn) (h : s.body.2.x ≠ 18) : (s.app r).body = (s.body.1, s.body.2.app r) := by
  have h3 : (PS.marks (s.toks.length + 1) (s.word.2.expect 2 [123]) []).2.x ≠ 18 := h
  have h2 := (marks_stp _ _ _).ne18 h3
  have h1 := (expect_stp _ _ _).ne18 h2
  have hl := ((word_stp s).trans (expect_stp s.word.2 2 [123])).1
  unfold PS.body
  simp only [ap_word s r h1, ap_expect _ _ _ r h2, ap_len]
  rw [ap_marks r (s.toks.length + 1) _ _ _ (by omega) (by omega) h3]
theorem ap_named (s : PS) (only : Int) (r : List Tkn) (h : (s.named only).2.x ≠ 18) : (s.app r).named only = ((s.named only).1, (s.named only).2.app r) := by
  have h1 : s.word.2.x ≠ 18 := by
    intro e
    refine h ?_
    unfold PS.named
    simp only
    rw [if_pos (by rw [e]; decide)]
    exact e
  unfold PS.named
  simp only [ap_word s r h1]
  generalize s.word.1 = nm
  generalize s.word.2 = s'
  by_cases h : s'.x ≠ 0
  · rw [if_pos h, if_pos (show (s'.app r).x ≠ 0 from h)]
  · rw [if_neg h, if_neg (show ¬ (s'.app r).x ≠ 0 from h), show (s'.app r).L = s'.L from rfl]
    cases findB s'.L.bodies nm with
    | none => exact congrArg (Prod.mk _) (ap_fail s' 5 r)
    | some i =>
      simp only
      split
      · exact congrArg (Prod.mk _) (ap_fail s' 7 r)
      · rfl
theorem ap_full (s : PS) (only : Int) (r : List Tkn) (h : (s.full only).2.2.x ≠ 18) : (s.app r).full only = ((s.full only).1, (s.full only).2.1, (s.full only).2.2.app r) := by
  have h3 : (((s.named only).2.expect 2 [46]).word).2.x ≠ 18 := by
    intro e
    refine h ?_
    unfold PS.full
    simp only
    rw [if_pos (by rw [e]; decide)]
    exact e
  have h2 := (word_stp _).ne18 h3
  have h1 := (expect_stp _ _ _).ne18 h2
  unfold PS.full
  simp only [ap_named s only r h1, ap_expect _ _ _ r h2, ap_word _ r h3]
  generalize (s.named only).1 = b
  generalize (((s.named only).2.expect 2 [46]).word).1 = nm
  generalize (((s.named only).2.expect 2 [46]).word).2 = s'
  by_cases h : s'.x ≠ 0
  · rw [if_pos h, if_pos (show (s'.app r).x ≠ 0 from h)]
  · rw [if_neg h, if_neg (show ¬ (s'.app r).x ≠ 0 from h), show (s'.app r).L = s'.L from rfl]
    cases findM (ptsAt s'.L b) nm with
    | none => exact congrArg (fun z => ((0 : Int), (0 : Int), z)) (ap_fail s' 5 r)
    | some i => rfl
theorem ap_joint (s : PS) (b : Bool) (r : List Tkn) (h : (s.joint b).x ≠ 18) : (s.app r).joint b = (s.joint b).app r := by
  unfold PS.joint at h ⊢
  cases b
  · simp only [Bool.false_eq_true, if_false] at h ⊢
    obtain ⟨fa, hfa⟩ : ∃ z, s.word.2.full (-1) = z := ⟨_, rfl⟩
    rw [hfa] at h ⊢
    obtain ⟨fb, hfb⟩ : ∃ z, fa.2.2.full (-1) = z := ⟨_, rfl⟩
    rw [hfb] at h ⊢
    have h3 : (fb.2.2.expect 2 [59]).x ≠ 18 := h
    have h2 := (expect_stp _ _ _).ne18 h3
    have h1 : fa.2.2.x ≠ 18 := by have := full_stp fa.2.2 (-1); rw [hfb] at this; exact this.ne18 h2
    have h0 : s.word.2.x ≠ 18 := by have := full_stp s.word.2 (-1); rw [hfa] at this; exact this.ne18 h1
    rw [ap_word s r h0]
    simp only
    rw [ap_full s.word.2 (-1) r (by rw [hfa]; exact h1), hfa]
    simp only
    rw [ap_full fa.2.2 (-1) r (by rw [hfb]; exact h2), hfb]
    simp only
    rw [ap_expect _ _ _ r h3]
    rfl
  · simp only [if_true] at h ⊢
    obtain ⟨fa, hfa⟩ : ∃ z, s.word.2.full (-1) = z := ⟨_, rfl⟩
    rw [hfa] at h ⊢
    obtain ⟨fb, hfb⟩ : ∃ z, fa.2.2.full (-1) = z := ⟨_, rfl⟩
    rw [hfb] at h ⊢
    obtain ⟨ft, hft⟩ : ∃ z, fb.2.2.full fb.1 = z := ⟨_, rfl⟩
    rw [hft] at h ⊢
    have h4 : (ft.2.2.expect 2 [59]).x ≠ 18 := h
    have h3 := (expect_stp _ _ _).ne18 h4
    have h2 : fb.2.2.x ≠ 18 := by have := full_stp fb.2.2 fb.1; rw [hft] at this; exact this.ne18 h3
    have h1 : fa.2.2.x ≠ 18 := by have := full_stp fa.2.2 (-1); rw [hfb] at this; exact this.ne18 h2
    have h0 : s.word.2.x ≠ 18 := by have := full_stp s.word.2 (-1); rw [hfa] at this; exact this.ne18 h1
    rw [ap_word s r h0]
    simp only
    rw [ap_full s.word.2 (-1) r (by rw [hfa]; exact h1), hfa]
    simp only
    rw [ap_full fa.2.2 (-1) r (by rw [hfb]; exact h2), hfb]
    simp only
    rw [ap_full fb.2.2 fb.1 r (by rw [hft]; exact h3), hft]
    simp only
    rw [ap_expect _ _ _ r h4]
    rfl
theorem joint_stp (s : PS) (b : Bool) : ∃ p j, s.joint b = p.addJ j ∧ Stp 8 s p := by
  have h0 := word_stp s
  have h1 := full_stp s.word.2 (-1)
  unfold PS.joint
  cases b
  · simp only [Bool.false_eq_true, if_false]
    generalize s.word.2.full (-1) = fa at h1 ⊢
    have h2 := full_stp fa.2.2 (-1)
    generalize fa.2.2.full (-1) = fb at h2 ⊢
    exact ⟨_, _, rfl, ((h0.trans h1).trans h2).trans (expect_stp fb.2.2 2 [59])⟩
  · simp only [if_true]
    generalize s.word.2.full (-1) = fa at h1 ⊢
    have h2 := full_stp fa.2.2 (-1)
    generalize fa.2.2.full (-1) = fb at h2 ⊢
    have h4 := full_stp fb.2.2 fb.1
    generalize fb.2.2.full fb.1 = ft at h4 ⊢
    exact ⟨_, _, rfl, ((((h0.trans h1).trans h2).trans h4).trans (expect_stp ft.2.2 2 [59])).mono (by decide)⟩
theorem driver_stp (s : PS) : ∃ p d, s.driver = p.addD d ∧ Stp 3 s p := by
  have h0 := word_stp s
  have h1 := named_stp s.word.2 (-1)
  unfold PS.driver
  generalize s.word.2.named (-1) = fa at h1 ⊢
  exact ⟨_, _, rfl, (h0.trans h1).trans (expect_stp fa.2 2 [59])⟩
theorem ap_driver (s : PS) (r : List Tkn) (h : s.driver.x ≠ 18) : (s.app r).driver = s.driver.app r := by
  have h2 : ((s.word.2.named (-1)).2.expect 2 [59]).x ≠ 18 := h
  have h1 := (expect_stp _ _ _).ne18 h2
  have h0 := (named_stp _ _).ne18 h1
  unfold PS.driver
  simp only [ap_word s r h0, ap_named _ _ r h1, ap_expect _ _ _ r h2]
  rfl
theorem item_x {s : PS} (h : s.word.2.x ≠ 0) : s.item.x = s.word.2.x := by
  unfold PS.item
  simp only
  generalize s.word.2 = s' at h ⊢
  split
  · show s'.body.2.x = _
    rw [(body_stp s').2.1 h]
  · split
    · obtain ⟨p, j, e, k⟩ := joint_stp s' false
      rw [e]
      show p.x = _
      rw [k.2.1 h]
    · split
      · obtain ⟨p, j, e, k⟩ := joint_stp s' true
        rw [e]
        show p.x = _
        rw [k.2.1 h]
      · split
        · obtain ⟨p, j, e, k⟩ := driver_stp s'
          rw [e]
          show p.x = _
          rw [k.2.1 h]
        · rw [(fail_stp s' 2 (by decide) 0).2.1 h]
theorem ap_item (s : PS) (r : List Tkn) (h : s.item.x ≠ 18) : (s.app r).item = s.item.app r := by
  have h0 : s.word.2.x ≠ 18 := fun e => h (by rw [item_x (by rw [e]; decide)]; exact e)
  have e := ap_word s r h0
  unfold PS.item at h ⊢
  simp only [e] at h ⊢
  generalize s.word.1 = nm at h ⊢
  generalize s.word.2 = s' at h ⊢
  split
  · rename_i h1
    rw [if_pos h1] at h
    rw [ap_body s' r h]; rfl
  · rename_i h1
    rw [if_neg h1] at h
    split
    · rename_i h2
      rw [if_pos h2] at h
      exact ap_joint s' false r h
    · rename_i h2
      rw [if_neg h2] at h
      split
      · rename_i h3
        rw [if_pos h3] at h
        exact ap_joint s' true r h
      · rename_i h3
        rw [if_neg h3] at h
        split
        · rename_i h4
          rw [if_pos h4] at h
          exact ap_driver s' r h
        · exact ap_fail s' 2 r
theorem items_x {f : Nat} {s : PS} (h : s.x ≠ 0) : PS.items f s = s := items_end fun k => h k.1
theorem item_one {s : PS} {t : Tkn} (e : s.toks = [t]) : s.item.x ≠ 0 := by
  intro h
  have hw := word_stp s
  unfold PS.item at h
  simp only at h
  generalize s.word.2 = s' at h hw
  have key : ∀ (d : Nat) (p : PS), Stp (d + 1) s' p → p.x = 0 → False := fun d p k hx => by
    obtain ⟨h1, h2⟩ := k.2.2.1 hx
    have := (hw.2.2.1 h1).2
    rw [e] at this
    simp only [List.length_cons, List.length_nil] at this
    omega
  split at h
  · exact key 1 s'.body.2 (body_stp s') h
  · split at h
    · obtain ⟨p, j, e2, k⟩ := joint_stp s' false
      rw [e2] at h
      exact key 7 p k h
    · split at h
      · obtain ⟨p, j, e2, k⟩ := joint_stp s' true
        rw [e2] at h
        exact key 7 p k h
      · split at h
        · obtain ⟨p, j, e2, k⟩ := driver_stp s'
          rw [e2] at h
          exact key 2 p k h
        · exact key s'.toks.length _ (fail_stp s' 2 (by decide) (s'.toks.length + 1)) h
theorem items_one (t : Tkn) : ∀ (f g : Nat) (s : PS), s.toks.length < f → s.toks.length + 1 < g → (PS.items f s).x ≠ 18 → (PS.items g (s.app [t])).x ≠ 0
  | 0, g, s, hf, _, _ => by omega
  | f + 1, g, s, hf, hg, h => by
    by_cases hx : s.x = 0
    · by_cases e : s.toks = []
      · have e1 : (s.app [t]).toks = [t] := by show s.toks ++ [t] = _; rw [e]; rfl
        rw [items_step (s := s.app [t]) (by omega) ⟨hx, by rw [e1]; simp⟩]
        have := item_one e1
        rw [items_x this]
        exact this
      · rw [items_step (by omega) ⟨hx, e⟩] at h
        have hi : s.item.x ≠ 18 := fun k => h (by rw [items_x (by rw [k]; decide)]; exact k)
        rw [items_step (s := s.app [t]) (by omega) ⟨hx, by show s.toks ++ [t] ≠ []; simp⟩, ap_item s [t] hi]
        by_cases hx2 : s.item.x = 0
        · have := (item_len s).2 hx2
          exact items_one t _ _ _ (by omega) (by omega) h
        · rw [items_x (s := s.item.app [t]) hx2]
          exact hx2
    · rw [items_x (s := s.app [t]) hx]
      exact hx
theorem read_more {l : List Tkn} {t : Tkn} (h : (readL l).x ≠ 18) : (readL (l ++ [t])).x ≠ 0 := by
  have e0 : (⟨l ++ [t], L0, 0⟩ : PS) = (⟨l, L0, 0⟩ : PS).app [t] := rfl
  have hl : (l ++ [t]).length = l.length + 1 := by simp
  unfold readL at h ⊢
  simp only at h ⊢
  rw [hl]
  generalize hs : (⟨l, L0, 0⟩ : PS) = s at h e0 ⊢
  have hsl : s.toks.length = l.length := by rw [← hs]
  have h3 : ∀ L' : LinkL, ∀ s' : PS, ({ s' with L := L' } : PS).app [t] = { (s'.app [t]) with L := L' } := fun _ _ => rfl
  by_cases hx : (({ ((s.expect 0 wLinkage).word.2) with L := { ((s.expect 0 wLinkage).word.2).L with name := ((s.expect 0 wLinkage).word.1) } } : PS).expect 2 [59]).x = 18
  · exact absurd (by rw [items_x (by rw [hx]; decide)]; exact hx) h
  · have k3 := (expect_stp ({ ((s.expect 0 wLinkage).word.2) with L := { ((s.expect 0 wLinkage).word.2).L with name := ((s.expect 0 wLinkage).word.1) } } : PS) 2 [59]).ne18 hx
    have k2 : (s.expect 0 wLinkage).word.2.x ≠ 18 := k3
    have k1 := (word_stp (s.expect 0 wLinkage)).ne18 k2
    have hlen := ((expect_stp s 0 wLinkage).trans (word_stp (s.expect 0 wLinkage))).1
    have hlen2 := (expect_stp ({ ((s.expect 0 wLinkage).word.2) with L := { ((s.expect 0 wLinkage).word.2).L with name := ((s.expect 0 wLinkage).word.1) } } : PS) 2 [59]).1
    have hlen3 : ({ ((s.expect 0 wLinkage).word.2) with L := { ((s.expect 0 wLinkage).word.2).L with name := ((s.expect 0 wLinkage).word.1) } } : PS).toks.length = (s.expect 0 wLinkage).word.2.toks.length := rfl
    rw [e0, ap_expect s _ _ [t] k1, ap_word _ [t] k2]
    simp only
    have e5 : ({ ((s.expect 0 wLinkage).word.2.app [t]) with L := { ((s.expect 0 wLinkage).word.2.app [t]).L with name := (s.expect 0 wLinkage).word.1 } } : PS) = ({ ((s.expect 0 wLinkage).word.2) with L := { ((s.expect 0 wLinkage).word.2).L with name := ((s.expect 0 wLinkage).word.1) } } : PS).app [t] := rfl
    rw [e5, ap_expect _ _ _ [t] hx]
    exact items_one t _ _ _ (by omega) (by omega) h
end Go.Proofs.YtoiijifnfdgfpaaGreatDoor

/- Tokens of a text with a line behind it: plain. -/
namespace Bn
theorem tw_more {p : UInt8 → Bool} : ∀ {a : List UInt8} (e : List UInt8), (∀ c t, e = c :: t → p c = false) → (a ++ e).takeWhile p = a.takeWhile p := by
  intro a
  induction a with
  | nil =>
    intro e he
    cases e with
    | nil => rfl
    | cons c t => rw [List.nil_append, List.takeWhile_cons, he c t rfl]; rfl
  | cons x r ih =>
    intro e he
    rw [List.cons_append, List.takeWhile_cons, List.takeWhile_cons, ih e he]
def NlE (e : List UInt8) : Prop := ∃ t, e = 10 :: t
theorem NlE.dg {e : List UInt8} (h : NlE e) : ∀ c t, e = c :: t → isDg c = false := by
  obtain ⟨u, rfl⟩ := h
  intro c t h; injection h with h _; subst h; decide
theorem NlE.pt {e : List UInt8} (h : NlE e) : ∀ c t, e = c :: t → isPart c = false := by
  obtain ⟨u, rfl⟩ := h
  intro c t h; injection h with h _; subst h; decide
theorem dig_more {e : List UInt8} (h : NlE e) (r : List UInt8) : digN (r ++ e) = digN r := by
  unfold digN
  rw [tw_more e h.dg]
theorem tail_more {e : List UInt8} (h : NlE e) (r : List UInt8) : tailN (r ++ e) = tailN r := by
  cases r with
  | nil =>
    obtain ⟨u, rfl⟩ := h
    show tailN (10 :: u) = 0
    rw [tailN, show ((10 : UInt8) == 46 || (10 : UInt8) == 47) = false from by decide]; rfl
  | cons c t =>
    rw [List.cons_append, tailN, tailN, dig_more h]
theorem min_more {e : List UInt8} {r : List UInt8} (hr : r ≠ []) : minN (r ++ e) = minN r := by
  cases r with
  | nil => exact absurd rfl hr
  | cons c t =>
    by_cases h : c = 45
    · subst h; rfl
    · have key : ∀ u : List UInt8, minN (c :: u) = 0 := fun u => by
        unfold minN
        split
        · rename_i h5; injection h5 with h5 _; exact absurd h5 h
        · rfl
      rw [List.cons_append, key, key]
theorem drop_more {r e : List UInt8} {k : Nat} (h : k ≤ r.length) : (r ++ e).drop k = r.drop k ++ e := by
  rw [List.drop_append_of_le_length h]
theorem num_more {e : List UInt8} (h : NlE e) {r : List UInt8} (hr : r ≠ []) : numN (r ++ e) = numN r := by
  have h1 := minN_le r
  have h2 := digN_le (r.drop (minN r))
  rw [List.length_drop] at h2
  unfold numN
  rw [min_more hr, drop_more h1, dig_more h, drop_more (by omega), tail_more h]
theorem bad_more {e : List UInt8} (h : NlE e) (r : List UInt8) : badEnd (r ++ e) = badEnd r := by
  cases r with
  | nil =>
    obtain ⟨u, rfl⟩ := h
    rfl
  | cons c t => rfl
theorem word_more {e : List UInt8} (h : NlE e) {r : List UInt8} (hr : r ≠ []) : wordN (r ++ e) = wordN r := by
  cases r with
  | nil => exact absurd rfl hr
  | cons c t => rw [List.cons_append, wordN, wordN, tw_more e h.pt]
theorem first_more {e : List UInt8} (h : NlE e) {r : List UInt8} (hr : r ≠ []) : firstT (r ++ e) = firstT r := by
  have h1 := word_more h hr
  have h2 := num_more h hr
  have h3 : badEnd ((r ++ e).drop (numN (r ++ e))) = badEnd (r.drop (numN r)) := by
    rw [h2, drop_more (numN_le r), bad_more h]
  cases r with
  | nil => exact absurd rfl hr
  | cons c t =>
    unfold firstT
    rw [List.cons_append] at h1 h2 h3 ⊢
    simp only
    rw [h1, h3, h2]
theorem com_more {e : List UInt8} (h : NlE e) (r : List UInt8) : comN (r ++ e) = comN r := by
  obtain ⟨u, rfl⟩ := h
  unfold comN
  rw [tw_more _ (fun c t h => by injection h with h _; subst h; rfl)]
def Toks.app (x : Toks) (f : Nat → Nat → Toks) (l c : Nat) : Toks := match x with
  | .ok a => (match f l c with | .ok b => .ok (a ++ b) | .err n => .err n)
  | .err n => .err n
theorem tk_more {e : List UInt8} (h : NlE e) : ∀ (n : Nat) (r : List UInt8) (line col : Nat) (l : List Tkn), r.length ≤ n → tk r line col = .ok l → ∃ line' col', tk (r ++ e) line col = (match tk e line' col' with | .ok b => .ok (l ++ b) | .err x => .err x) := by
  intro n
  induction n with
  | zero =>
    intro r line col l hr hl
    have : r = [] := List.eq_nil_of_length_eq_zero (by omega)
    subst this
    rw [tk_nil] at hl
    injection hl with hl
    subst hl
    refine ⟨line, col, ?_⟩
    rw [List.nil_append]
    cases tk e line col <;> rfl
  | succ n ih =>
    intro r line col l hr hl
    cases r with
    | nil =>
      rw [tk_nil] at hl
      injection hl with hl
      subst hl
      refine ⟨line, col, ?_⟩
      rw [List.nil_append]
      cases tk e line col <;> rfl
    | cons c t =>
      rw [List.length_cons] at hr
      by_cases h10 : c = 10
      · subst h10
        rw [tk_line] at hl
        rw [List.cons_append, tk_line]
        exact ih t _ _ l (by omega) hl
      · by_cases hb : isBlk c = true
        · rw [tk_blank hb] at hl
          rw [List.cons_append, tk_blank hb]
          exact ih t _ _ l (by omega) hl
        · have hb2 : isBlk c = false := by simpa using hb
          by_cases h37 : c = 37
          · subst h37
            rw [tk_com] at hl
            have hc := com_more h (37 :: t)
            have hp := comN_pos (t := t)
            have hle := comN_le (37 :: t)
            rw [List.cons_append] at hc
            rw [List.cons_append, tk_com, hc, ← List.cons_append, drop_more hle]
            exact ih _ _ _ l (by rw [List.length_drop, List.length_cons]; omega) hl
          · have hf := first_more h (r := c :: t) (by simp)
            cases hfi : firstT (c :: t) with
            | err x =>
              rw [tk_err hfi h10 hb2 h37] at hl
              cases hl
            | ok k m =>
              rw [hfi, List.cons_append] at hf
              have hm := firstT_ok hfi
              rw [tk_tok hfi] at hl
              cases hx : tk ((c :: t).drop m) line (col + m) with
              | err x => rw [hx] at hl; cases hl
              | ok l' =>
                rw [hx] at hl
                injection hl with hl
                subst hl
                have hm2 := hm.2
                rw [List.length_cons] at hm2
                obtain ⟨a, b, e1⟩ := ih ((c :: t).drop m) line (col + m) l' (by rw [List.length_drop, List.length_cons]; omega) hx
                refine ⟨a, b, ?_⟩
                rw [List.cons_append, tk_tok hf, ← List.cons_append, drop_more hm.2, e1, List.take_append_of_le_length hm.2]
                cases tk e a b <;> rfl
theorem tokens_x {s : List UInt8} {l : List Tkn} (h : tokens s = .ok l) : ∃ t, tokens (s ++ [10, 120]) = .ok (l ++ [t]) := by
  have h1 : tk s 1 1 = .ok l := h
  obtain ⟨a, b, e⟩ := tk_more (e := [10, 120]) ⟨_, rfl⟩ s.length s 1 1 l (Nat.le_refl _) h1
  refine ⟨⟨0, [120], a + 1, 1⟩, ?_⟩
  show tk (s ++ [10, 120]) 1 1 = _
  rw [e]
  have : tk [10, 120] a b = .ok [⟨0, [120], a + 1, 1⟩] := by
    rw [tk_line]
    rfl
  rw [this]
end Bn

/- Reading, plain: what tokens look like that are read. -/
namespace Go.Proofs.YtoiijifnfdgfpaaGreatDoor
open Go Go.RowKit Bn
theorem none_x {s s' : PS} (h : ∀ d, Stp d s s') : s'.x ≠ 0 := fun hx => by have := ((h (s.toks.length + 1)).2.2.1 hx).2; omega
theorem fail_x (s : PS) (e : Int) (he : e ≠ 0) : (s.fail e).x ≠ 0 := none_x fun d => fail_stp s e he d
theorem kt_cons {s : PS} {t : Tkn} {r : List Tkn} (e : s.toks = t :: r) : kt s.toks = (t.kind, t.text) :: kt s.drop1.toks := by
  unfold PS.drop1
  rw [e]; rfl
theorem word_inv {s : PS} (h : s.word.2.x = 0) : s.x = 0 ∧ kt s.toks = (0, s.word.1) :: kt s.word.2.toks := by
  rcases next_cases s 0 with ⟨t, r, hx, e, hk, h1⟩ | ⟨s', h1, hs⟩
  · have e1 : s.word = (t.text, s.drop1) := by unfold PS.word; rw [h1]
    rw [e1]
    exact ⟨hx, by rw [kt_cons e, hk]⟩
  · have e1 : s.word = ([], s') := by unfold PS.word; rw [h1]
    rw [e1] at h
    exact absurd h (none_x hs)
theorem expect_inv {s : PS} {k : Nat} {t : List UInt8} (h : (s.expect k t).x = 0) : s.x = 0 ∧ kt s.toks = (k, t) :: kt (s.expect k t).toks := by
  rcases next_cases s k with ⟨t0, r, hx, e, hk, h1⟩ | ⟨s', h1, hs⟩
  · have e1 : s.expect k t = if t0.text = t then s.drop1 else s.fail 2 := by unfold PS.expect; rw [h1]
    rw [e1] at h ⊢
    split at h
    · rename_i h2
      rw [if_pos h2]
      exact ⟨hx, by rw [kt_cons e, hk, h2]⟩
    · exact absurd h (fail_x s 2 (by decide))
  · have e1 : s.expect k t = s' := by unfold PS.expect; rw [h1]
    rw [e1] at h
    exact absurd h (none_x hs)
theorem number_inv {s : PS} (h : s.number.2.x = 0) : s.x = 0 ∧ ∃ u, kt s.toks = (1, u) :: kt s.number.2.toks := by
  rcases next_cases s 1 with ⟨t0, r, hx, e, hk, h1⟩ | ⟨s', h1, hs⟩
  · have e1 : s.number = if valX t0.text ≠ 0 then (0, s.fail (valX t0.text)) else (valQ t0.text, s.drop1) := by unfold PS.number; rw [h1]
    rw [e1] at h ⊢
    split at h
    · rename_i h2
      exact absurd h (fail_x s _ h2)
    · rename_i h2
      rw [if_neg h2]
      exact ⟨hx, t0.text, by rw [kt_cons e, hk]⟩
  · have e1 : s.number = (0, s') := by unfold PS.number; rw [h1]
    rw [e1] at h
    exact absurd h (none_x hs)
def mkR (m : List UInt8 × List UInt8 × List UInt8) : List (Nat × List UInt8) := [(0, m.1), (1, m.2.1), (1, m.2.2), (2, [59])]
theorem mark_inv {s : PS} (h : s.mark.2.x = 0) : s.x = 0 ∧ ∃ m, kt s.toks = mkR m ++ kt s.mark.2.toks := by
  have h4 : (s.word.2.number.2.number.2.expect 2 [59]).x = 0 := h
  obtain ⟨h3, e4⟩ := expect_inv h4
  obtain ⟨h2, v, e3⟩ := number_inv h3
  obtain ⟨h1, u, e2⟩ := number_inv h2
  obtain ⟨h0, e1⟩ := word_inv h1
  exact ⟨h0, (s.word.1, u, v), by rw [e1, e2, e3, e4]; rfl⟩
theorem marks_inv : ∀ (f : Nat) (s : PS) (l : List MarkL), s.toks.length < f → (PS.marks f s l).2.x = 0 → s.x = 0 ∧ ∃ ms : List (List UInt8 × List UInt8 × List UInt8), kt s.toks = ms.flatMap mkR ++ (2, [125]) :: kt (PS.marks f s l).2.toks
  | 0, s, l, hf, _ => by omega
  | f + 1, s, l, hf, h => by
    by_cases hx : s.x = 0
    · cases hs : s.signHead
      · rw [marks_step (by omega) hx hs] at h ⊢
        have h1 := ((marks_stp _ _ _).2.2.1 h).1
        have h2 := ((mark_stp s).2.2.1 h1).2
        obtain ⟨_, ms, e⟩ := marks_inv (f + 1 - 1) s.mark.2 _ (by omega) h
        obtain ⟨_, m, e2⟩ := mark_inv h1
        exact ⟨hx, m :: ms, by rw [e2, e, List.flatMap_cons, List.append_assoc]⟩
      · rw [marks_end (by omega) hx hs] at h ⊢
        exact ⟨hx, [], (expect_inv h).2⟩
    · rw [marks_x hx] at h
      exact absurd h hx
theorem body_inv {s : PS} (h : s.body.2.x = 0) : s.x = 0 ∧ ∃ ms : List (List UInt8 × List UInt8 × List UInt8), kt s.toks = (0, s.body.1.name) :: (2, [123]) :: (ms.flatMap mkR ++ (2, [125]) :: kt s.body.2.toks) := by
  have h3 : (PS.marks (s.toks.length + 1) (s.word.2.expect 2 [123]) []).2.x = 0 := h
  have hl := ((word_stp s).trans (expect_stp s.word.2 2 [123])).1
  obtain ⟨h2, ms, e3⟩ := marks_inv _ _ _ (by omega) h3
  obtain ⟨h1, e2⟩ := expect_inv h2
  obtain ⟨h0, e1⟩ := word_inv h1
  exact ⟨h0, ms, by rw [e1, e2, e3]; rfl⟩
theorem named_inv {s : PS} {only : Int} (h : (s.named only).2.x = 0) : s.x = 0 ∧ ∃ b, kt s.toks = (0, b) :: kt (s.named only).2.toks := by
  have key : s.word.2.x = 0 ∧ (s.named only).2 = s.word.2 := by
    unfold PS.named at h ⊢
    simp only at h ⊢
    split at h
    · rename_i hx; exact absurd h hx
    · rename_i hx
      rw [if_neg hx]
      have hx : s.word.2.x = 0 := by simpa using hx
      split at h
      · rename_i i hi
        simp only at h
        split at h
        · exact absurd h (fail_x _ 7 (by decide))
        · rename_i h2
          exact ⟨hx, if_neg h2⟩
      · exact absurd h (fail_x _ 5 (by decide))
  obtain ⟨h1, e1⟩ := word_inv key.1
  rw [key.2]
  exact ⟨h1, _, e1⟩
theorem full_inv {s : PS} {only : Int} (h : (s.full only).2.2.x = 0) : s.x = 0 ∧ ∃ b p, kt s.toks = (0, b) :: (2, [46]) :: (0, p) :: kt (s.full only).2.2.toks := by
  have key : (((s.named only).2.expect 2 [46]).word).2.x = 0 ∧ (s.full only).2.2 = (((s.named only).2.expect 2 [46]).word).2 := by
    unfold PS.full at h ⊢
    simp only at h ⊢
    split at h
    · rename_i hx; exact absurd h hx
    · rename_i hx
      rw [if_neg hx]
      have hx : (((s.named only).2.expect 2 [46]).word).2.x = 0 := by simpa using hx
      split at h
      · exact ⟨hx, rfl⟩
      · exact absurd h (fail_x _ 5 (by decide))
  obtain ⟨h3, e3⟩ := word_inv key.1
  obtain ⟨h2, e2⟩ := expect_inv h3
  obtain ⟨h1, b, e1⟩ := named_inv h2
  rw [key.2]
  exact ⟨h1, b, _, by rw [e1, e2, e3]⟩
inductive ItmR where
  | body (nm : List UInt8) (ms : List (List UInt8 × List UInt8 × List UInt8))
  | pin (nm a p b o : List UInt8)
  | slide (nm a p b o d t : List UInt8)
  | driver (nm b : List UInt8)
def ItmR.nm : ItmR → List UInt8
  | .body nm _ => nm
  | .pin nm _ _ _ _ => nm
  | .slide nm _ _ _ _ _ _ => nm
  | .driver nm _ => nm
def ItmR.kd : ItmR → List UInt8
  | .body _ _ => wBody
  | .pin _ _ _ _ _ => wPin
  | .slide _ _ _ _ _ _ _ => wSlide
  | .driver _ _ => wDriver
def ItmR.tl : ItmR → List (Nat × List UInt8)
  | .body _ ms => (2, [123]) :: (ms.flatMap mkR ++ [(2, [125])])
  | .pin _ a p b o => [(0, a), (2, [46]), (0, p), (0, b), (2, [46]), (0, o), (2, [59])]
  | .slide _ a p b o d t => [(0, a), (2, [46]), (0, p), (0, b), (2, [46]), (0, o), (0, d), (2, [46]), (0, t), (2, [59])]
  | .driver _ b => [(0, b), (2, [59])]
def ItmR.kts (i : ItmR) : List (Nat × List UInt8) := (0, i.kd) :: (0, i.nm) :: i.tl
def ItmR.bN (i : ItmR) : List (List UInt8) := if i.kd = wBody then [i.nm] else []
def ItmR.dN (i : ItmR) : List (List UInt8) := if i.kd = wDriver then [i.nm] else []
def ItmR.jN (i : ItmR) : List (List UInt8) := if i.kd = wPin ∨ i.kd = wSlide then [i.nm] else []
structure NmsL (L M : LinkL) (I : List ItmR) : Prop where
  b : M.bodies.map BodyL.name = L.bodies.map BodyL.name ++ I.flatMap ItmR.bN
  j : M.joints.map JointL.name = L.joints.map JointL.name ++ I.flatMap ItmR.jN
  d : M.drivers.map DriverL.name = L.drivers.map DriverL.name ++ I.flatMap ItmR.dN
theorem joint_inv0 {s : PS} (h : (s.joint false).x = 0) : s.x = 0 ∧ ∃ (a p b o : List UInt8) (j : JointL), kt s.toks = (0, s.word.1) :: [(0, a), (2, [46]), (0, p), (0, b), (2, [46]), (0, o), (2, [59])] ++ kt (s.joint false).toks ∧ (s.joint false).L = { s.L with joints := s.L.joints ++ [j] } ∧ j.name = s.word.1 := by
  have hL0 := (word_stp s).sameL
  unfold PS.joint at h ⊢
  simp only [Bool.false_eq_true, if_false] at h ⊢
  obtain ⟨fa, hfa⟩ : ∃ z, s.word.2.full (-1) = z := ⟨_, rfl⟩
  rw [hfa] at h ⊢
  obtain ⟨fb, hfb⟩ : ∃ z, fa.2.2.full (-1) = z := ⟨_, rfl⟩
  rw [hfb] at h ⊢
  have h4 : (fb.2.2.expect 2 [59]).x = 0 := h
  obtain ⟨h3, e4⟩ := expect_inv h4
  have hb := full_inv (s := fa.2.2) (only := -1)
  rw [hfb] at hb
  obtain ⟨h2, b, o, e3⟩ := hb h3
  have ha := full_inv (s := s.word.2) (only := -1)
  rw [hfa] at ha
  obtain ⟨h1, a, p, e2⟩ := ha h2
  obtain ⟨h0, e1⟩ := word_inv h1
  have hL1 := (full_stp s.word.2 (-1)).sameL
  rw [hfa] at hL1
  have hL2 := (full_stp fa.2.2 (-1)).sameL
  rw [hfb] at hL2
  have hL3 := (expect_stp fb.2.2 2 [59]).sameL
  refine ⟨h0, a, p, b, o, ⟨s.word.1, 0, fa.1, fa.2.1, fb.1, fb.2.1, 0⟩, ?_, ?_, rfl⟩
  · rw [e1, e2, e3, e4]; rfl
  · show ({ (fb.2.2.expect 2 [59]).L with joints := (fb.2.2.expect 2 [59]).L.joints ++ [_] } : LinkL) = _
    rw [hL3, hL2, hL1, hL0]
theorem joint_inv1 {s : PS} (h : (s.joint true).x = 0) : s.x = 0 ∧ ∃ (a p b o d t : List UInt8) (j : JointL), kt s.toks = (0, s.word.1) :: [(0, a), (2, [46]), (0, p), (0, b), (2, [46]), (0, o), (0, d), (2, [46]), (0, t), (2, [59])] ++ kt (s.joint true).toks ∧ (s.joint true).L = { s.L with joints := s.L.joints ++ [j] } ∧ j.name = s.word.1 := by
  have hL0 := (word_stp s).sameL
  unfold PS.joint at h ⊢
  simp only [if_true] at h ⊢
  obtain ⟨fa, hfa⟩ : ∃ z, s.word.2.full (-1) = z := ⟨_, rfl⟩
  rw [hfa] at h ⊢
  obtain ⟨fb, hfb⟩ : ∃ z, fa.2.2.full (-1) = z := ⟨_, rfl⟩
  rw [hfb] at h ⊢
  obtain ⟨ft, hft⟩ : ∃ z, fb.2.2.full fb.1 = z := ⟨_, rfl⟩
  rw [hft] at h ⊢
  have h5 : (ft.2.2.expect 2 [59]).x = 0 := h
  obtain ⟨h4, e5⟩ := expect_inv h5
  have ht := full_inv (s := fb.2.2) (only := fb.1)
  rw [hft] at ht
  obtain ⟨h3, d, t, e4⟩ := ht h4
  have hb := full_inv (s := fa.2.2) (only := -1)
  rw [hfb] at hb
  obtain ⟨h2, b, o, e3⟩ := hb h3
  have ha := full_inv (s := s.word.2) (only := -1)
  rw [hfa] at ha
  obtain ⟨h1, a, p, e2⟩ := ha h2
  obtain ⟨h0, e1⟩ := word_inv h1
  have hL1 := (full_stp s.word.2 (-1)).sameL
  rw [hfa] at hL1
  have hL2 := (full_stp fa.2.2 (-1)).sameL
  rw [hfb] at hL2
  have hL3 := (full_stp fb.2.2 fb.1).sameL
  rw [hft] at hL3
  have hL4 := (expect_stp ft.2.2 2 [59]).sameL
  refine ⟨h0, a, p, b, o, d, t, ⟨s.word.1, 1, fa.1, fa.2.1, fb.1, fb.2.1, ft.2.1⟩, ?_, ?_, rfl⟩
  · rw [e1, e2, e3, e4, e5]; rfl
  · show ({ (ft.2.2.expect 2 [59]).L with joints := (ft.2.2.expect 2 [59]).L.joints ++ [_] } : LinkL) = _
    rw [hL4, hL3, hL2, hL1, hL0]
theorem driver_inv {s : PS} (h : s.driver.x = 0) : s.x = 0 ∧ ∃ (b : List UInt8) (j : DriverL), kt s.toks = (0, s.word.1) :: [(0, b), (2, [59])] ++ kt s.driver.toks ∧ s.driver.L = { s.L with drivers := s.L.drivers ++ [j] } ∧ j.name = s.word.1 := by
  have hL0 := (word_stp s).sameL
  unfold PS.driver at h ⊢
  simp only at h ⊢
  obtain ⟨fa, hfa⟩ : ∃ z, s.word.2.named (-1) = z := ⟨_, rfl⟩
  rw [hfa] at h ⊢
  have h3 : (fa.2.expect 2 [59]).x = 0 := h
  obtain ⟨h2, e3⟩ := expect_inv h3
  have ha := named_inv (s := s.word.2) (only := -1)
  rw [hfa] at ha
  obtain ⟨h1, b, e2⟩ := ha h2
  obtain ⟨h0, e1⟩ := word_inv h1
  have hL1 := (named_stp s.word.2 (-1)).sameL
  rw [hfa] at hL1
  have hL2 := (expect_stp fa.2 2 [59]).sameL
  refine ⟨h0, b, ⟨s.word.1, fa.1⟩, ?_, ?_, rfl⟩
  · rw [e1, e2, e3]; rfl
  · show ({ (fa.2.expect 2 [59]).L with drivers := (fa.2.expect 2 [59]).L.drivers ++ [_] } : LinkL) = _
    rw [hL2, hL1, hL0]
theorem item_inv {s : PS} (h : s.item.x = 0) : s.x = 0 ∧ ∃ i : ItmR, kt s.toks = i.kts ++ kt s.item.toks ∧ NmsL s.L s.item.L [i] := by
  have hsL := (word_stp s).sameL
  have hw := word_inv (s := s)
  unfold PS.item at h ⊢
  simp only at h ⊢
  generalize s.word.1 = nm at h hw ⊢
  generalize s.word.2 = s' at h hsL hw ⊢
  split at h
  · rename_i c1
    rw [if_pos c1]
    obtain ⟨h1, ms, e1⟩ := body_inv (s := s') h
    obtain ⟨h0, e0⟩ := hw h1
    have hbL := (body_stp s').sameL
    refine ⟨h0, .body s'.body.1.name ms, ?_, ?_, ?_, ?_⟩
    · rw [e0, e1, c1]
      show _ = (0, wBody) :: (0, s'.body.1.name) :: (2, [123]) :: ((ms.flatMap mkR ++ [(2, [125])]) ++ kt s'.body.2.toks)
      rw [List.append_assoc]; rfl
    · show (s'.body.2.L.bodies ++ [s'.body.1]).map BodyL.name = _
      rw [hbL, hsL, List.map_append]; rfl
    · show s'.body.2.L.joints.map JointL.name = _
      rw [hbL, hsL]; exact (List.append_nil _).symm
    · show s'.body.2.L.drivers.map DriverL.name = _
      rw [hbL, hsL]; exact (List.append_nil _).symm
  · rename_i c1
    rw [if_neg c1]
    split at h
    · rename_i c2
      rw [if_pos c2]
      obtain ⟨h1, a, p, b, o, j, e1, eL, ej⟩ := joint_inv0 h
      obtain ⟨h0, e0⟩ := hw h1
      refine ⟨h0, .pin s'.word.1 a p b o, ?_, ?_, ?_, ?_⟩
      · rw [e0, e1, c2]; rfl
      · rw [eL, hsL]; exact (List.append_nil _).symm
      · rw [eL, hsL, ← ej]
        show (s.L.joints ++ [j]).map JointL.name = _
        rw [List.map_append]; rfl
      · rw [eL, hsL]; exact (List.append_nil _).symm
    · rename_i c2
      rw [if_neg c2]
      split at h
      · rename_i c3
        rw [if_pos c3]
        obtain ⟨h1, a, p, b, o, d, t, j, e1, eL, ej⟩ := joint_inv1 h
        obtain ⟨h0, e0⟩ := hw h1
        refine ⟨h0, .slide s'.word.1 a p b o d t, ?_, ?_, ?_, ?_⟩
        · rw [e0, e1, c3]; rfl
        · rw [eL, hsL]; exact (List.append_nil _).symm
        · rw [eL, hsL, ← ej]
          show (s.L.joints ++ [j]).map JointL.name = _
          rw [List.map_append]; rfl
        · rw [eL, hsL]; exact (List.append_nil _).symm
      · rename_i c3
        rw [if_neg c3]
        split at h
        · rename_i c4
          rw [if_pos c4]
          obtain ⟨h1, b, j, e1, eL, ej⟩ := driver_inv h
          obtain ⟨h0, e0⟩ := hw h1
          refine ⟨h0, .driver s'.word.1 b, ?_, ?_, ?_, ?_⟩
          · rw [e0, e1, c4]; rfl
          · rw [eL, hsL]; exact (List.append_nil _).symm
          · rw [eL, hsL]; exact (List.append_nil _).symm
          · rw [eL, hsL, ← ej]
            show (s.L.drivers ++ [j]).map DriverL.name = _
            rw [List.map_append]; rfl
        · exact absurd h (fail_x _ 2 (by decide))
theorem items_inv : ∀ (f : Nat) (s : PS), s.toks.length < f → (PS.items f s).x = 0 → ∃ I : List ItmR, kt s.toks = I.flatMap ItmR.kts ∧ NmsL s.L (PS.items f s).L I
  | 0, s, hf, _ => by omega
  | f + 1, s, hf, h => by
    by_cases hs : s.x = 0 ∧ s.toks ≠ []
    · rw [items_step (by omega) hs] at h ⊢
      have hx : s.item.x = 0 := by
        by_cases hx : s.item.x = 0
        · exact hx
        · rw [items_end (fun k => hx k.1)] at h; exact h
      have h1 := (item_len s).2 hx
      obtain ⟨_, i, e1, n1⟩ := item_inv hx
      obtain ⟨I, e2, n2⟩ := items_inv (f + 1 - 1) s.item (by omega) h
      refine ⟨i :: I, by rw [e1, e2, List.flatMap_cons], ?_, ?_, ?_⟩
      · rw [n2.b, n1.b, List.append_assoc]; simp
      · rw [n2.j, n1.j, List.append_assoc]; simp
      · rw [n2.d, n1.d, List.append_assoc]; simp
    · rw [items_end hs] at h ⊢
      have e : s.toks = [] := by
        by_cases e : s.toks = []
        · exact e
        · exact absurd ⟨h, e⟩ hs
      exact ⟨[], by rw [e]; rfl, by simp, by simp, by simp⟩
theorem read_inv {l : List Tkn} (h : (readL l).x = 0) : ∃ nm I, kt l = (0, wLinkage) :: (0, nm) :: (2, [59]) :: I.flatMap ItmR.kts ∧ NmsL L0 (readL l).L I := by
  unfold readL at h ⊢
  simp only at h ⊢
  generalize hs0 : (⟨l, L0, 0⟩ : PS) = s at h ⊢
  have hk : kt s.toks = kt l := by rw [← hs0]
  have hsl : s.toks.length = l.length := by rw [← hs0]
  have hsL : s.L = L0 := by rw [← hs0]
  have hlen := ((expect_stp s 0 wLinkage).trans (word_stp (s.expect 0 wLinkage)))
  have hL2 := hlen.sameL
  generalize hs3 : ({ ((s.expect 0 wLinkage).word.2) with L := { ((s.expect 0 wLinkage).word.2).L with name := ((s.expect 0 wLinkage).word.1) } } : PS) = s3 at h ⊢
  have a1 : s3.toks = (s.expect 0 wLinkage).word.2.toks := by rw [← hs3]
  have a2 : s3.x = (s.expect 0 wLinkage).word.2.x := by rw [← hs3]
  have a3 : s3.L.bodies = [] ∧ s3.L.joints = [] ∧ s3.L.drivers = [] := by
    rw [← hs3]
    show ((s.expect 0 wLinkage).word.2).L.bodies = [] ∧ ((s.expect 0 wLinkage).word.2).L.joints = [] ∧ ((s.expect 0 wLinkage).word.2).L.drivers = []
    rw [hL2, hsL]
    exact ⟨rfl, rfl, rfl⟩
  have hl3 := (expect_stp s3 2 [59]).1
  have hl4 := (expect_stp s3 2 [59]).sameL
  have hl5 := hlen.1
  rw [← a1] at hl5
  obtain ⟨I, e1, n1⟩ := items_inv (l.length + 1) (s3.expect 2 [59]) (by omega) h
  have hx : (s3.expect 2 [59]).x = 0 := by
    by_cases hx : (s3.expect 2 [59]).x = 0
    · exact hx
    · rw [items_end (fun k => hx k.1)] at h; exact h
  obtain ⟨h3, e3⟩ := expect_inv hx
  rw [a2] at h3
  obtain ⟨h2, e2⟩ := word_inv h3
  obtain ⟨h1, e0⟩ := expect_inv h2
  refine ⟨(s.expect 0 wLinkage).word.1, I, ?_, ?_, ?_, ?_⟩
  · rw [← hk, e0, e2, ← a1, e3, e1]
  · have := n1.b
    rw [hl4, a3.1] at this
    exact this
  · have := n1.j
    rw [hl4, a3.2.1] at this
    exact this
  · have := n1.d
    rw [hl4, a3.2.2] at this
    exact this
end Go.Proofs.YtoiijifnfdgfpaaGreatDoor

/- Walks: the Parse laws: ParseEnds. -/
namespace Go.Proofs.YtoiijifnfdgfpaaGreatDoor
open Go Go.RowKit Bn
attribute [local go_sem ↓] Go.wp_at_zero Go.wp_at_succ
theorem TkS.take_ {w : World} {A : Option Addr} {n c : Nat} {l : List Tkn} (h : TkS w A n c l) {k : Nat} (hk : k ≤ n) (h0 : 0 < n) : TkS w A k c (l.take k) := by
  obtain ⟨h1, h2⟩ := h
  refine ⟨by rw [List.length_take, h1]; omega, ?_⟩
  rcases h2 with ⟨h2, _⟩ | ⟨g, e, hc, h3⟩
  · omega
  · refine .inr ⟨g, e, by omega, fun i v hv => h3 i v ?_⟩
    have e2 : tokCs l = tokCs (l.take k) ++ tokCs (l.drop k) := by
      unfold tokCs
      rw [← List.flatMap_append, List.take_append_drop]
    rw [e2, List.getElem?_append_left (List.getElem?_eq_some_iff.1 hv).1]
    exact hv
theorem join_of {l : List Tkn} (hg : ∀ t ∈ l, GoodT t.kind t.text) (hl : (joinT (l.map Tkn.text)).length ≤ 65536) : ∃ m, SplitOut (joinT (l.map Tkn.text)) 0 m ∧ kt l = kt m := by
  have hs := glue_tk (L := joinL l) (fun p hp => by
    obtain ⟨⟨t, ht, e1, e2⟩, e3⟩ := joinL_mem hp
    refine ⟨by rw [e1, e2]; exact hg t ht, ?_⟩
    rcases e3 with e | e <;> rw [e]
    · exact Skip.nil
    · exact Skip.blank (by decide) Skip.nil) (fun i p hp hi => ⟨32, [], joinL_inner hp hi, by decide⟩) (fun p hp => by
    obtain ⟨_, e3⟩ := joinL_mem (List.mem_of_getLast? hp)
    rcases e3 with e | e
    · exact .inl e
    · exact .inr ⟨32, [], e, by decide⟩) 1 1
  rw [joinL_glue, joinL_map] at hs
  obtain ⟨m, hm, he⟩ := shape_ok hs
  exact ⟨m, .ok hl hm rfl, he.symm⟩
theorem tkE_sum : ∀ (l : List Tkn) (i : Nat), ((l.take i).map fun t => t.text.length).sum ≤ (l.map fun t => t.text.length).sum
  | [], i => by simp
  | t :: l, 0 => by simp
  | t :: l, i + 1 => by
    have := tkE_sum l i
    simp only [List.take_succ_cons, List.map_cons, List.sum_cons]
    omega
theorem join_small {s : List UInt8} {l : List Tkn} (ht : tokens s = .ok l) (hs : s.length ≤ 3000) (k : Nat) : (joinT ((l.take k).map Tkn.text)).length ≤ 65536 := by
  have h1 := joinT_len (l.take k)
  have h2 := tkE_sum l k
  have h3 := tokens_len ht
  have h4 : (l.take k).length ≤ l.length := by rw [List.length_take]; omega
  omega
structure EndsF (s : List UInt8) (l : List Tkn) : Prop where
  split : SplitOut s 0 l
  len : 3 ≤ l.length ∧ l.length ≤ 3000
  more : ∃ y L, y ≠ 0 ∧ ReadOut (s ++ [10, 120]) y L
  less : ReadOut (joinT ((l.take (l.length - 1)).map Tkn.text)) 18 L0
  jlen : (joinT ((l.take (l.length - 1)).map Tkn.text)).length ≤ 65536
theorem endsF {s : List UInt8} {L : LinkL} (hs : s.length ≤ 3000) (h : ReadOut s 0 L) : ∃ l, EndsF s l := by
  cases h with
  | split _ _ hx _ => exact absurd rfl hx
  | read _ _ _ hx _ => exact absurd rfl hx
  | check _ _ _ _ hx _ => exact absurd rfl hx
  | ok l hsp hr hc _ _ =>
    have ht : tokens s = .ok l := by
      cases hsp with
      | big h _ _ => omega
      | ok _ h _ => exact h
      | err n _ h1 hx hl =>
        exfalso
        have := tokens_errN h1
        omega
    have htl := tokens_len ht
    obtain ⟨nm, I, hk, _⟩ := read_inv hr
    have h3 : 3 ≤ l.length := by
      have := congrArg List.length hk
      unfold kt at this
      simp only [List.length_map, List.length_cons] at this
      omega
    refine ⟨l, hsp, ⟨h3, by omega⟩, ?_, ?_, ?_⟩
    · obtain ⟨t, h1⟩ := tokens_x ht
      have h2 := read_more (l := l) (t := t) (by rw [hr]; decide)
      exact ⟨_, _, h2, .read _ (.ok (by simp; omega) h1 rfl) rfl h2 rfl⟩
    · have hg : ∀ t ∈ l.take (l.length - 1), GoodT t.kind t.text := fun t hm => toks_good _ _ _ _ _ ht t (List.mem_of_mem_take hm)
      have hj : (joinT ((l.take (l.length - 1)).map Tkn.text)).length ≤ 65536 := join_small ht hs _
      obtain ⟨m, hm, e⟩ := join_of hg hj
      have e2 := (read_kt e).1
      have hx : (readL (l.take (l.length - 1))).x = 18 := by
        by_cases hx : (readL (l.take (l.length - 1))).x = 18
        · exact hx
        · have hlt : l.length - 1 < l.length := by omega
          have e3 : l.take (l.length - 1) ++ [l[l.length - 1]] = l := by
            have := List.take_append_getElem hlt
            rw [this, show l.length - 1 + 1 = l.length by omega, List.take_length]
          have := read_more (t := l[l.length - 1]) hx
          rw [e3] at this
          exact absurd hr this
      exact .read m hm (by rw [← e2]; exact hx) (by decide) rfl
    · exact join_small ht hs _
theorem l_ParseEnds (w : World) (s : List UInt8) (_ : s.length < 9223372036854775808) (_ : Tab w) (hmx : Mx w) : Calls Tryz.prog 9 #[strV s] w (RetV w (.bool true)) := by
 by_cases h1 : 3000 < s.length
 ·have f1 : ((3000 : Int) < (s.length : Int)) = True := eq_true (by omega)
  go_enter Tryz.func9, Tryz.ntmps9
  go_wp2_with fail
  (with_reducible refine (l20_awake w hmx).mono ?_); rintro e w1 ⟨rfl, hb1⟩
  have hmx1 := hmx.belw hb1
  go_wp2_with fail
  (with_reducible refine (l20_awake w1 hmx1).mono ?_); rintro e w2 ⟨rfl, hb2⟩
  have bw2 := hb1.trans (hb2.mono hb1.size)
  go_wp2_with fail
  go_ret
  exact retB rfl bw2
 ·have f1 : ((3000 : Int) < (s.length : Int)) = False := eq_false (by omega)
  have hsl : s.length ≤ 3000 := by omega
  obtain ⟨x, L, hR⟩ := readOut s
  have HR := Lib.hid hR
  have HM := Lib.hid hmx
  clear hR hmx h1
  by_cases hx : x = 0
  rotate_left
  ·have hx0 := hx
   go_enter Tryz.func9, Tryz.ntmps9
   go_wp2_with fail
   (with_reducible refine (l20_awake w HM.out).mono ?_); rintro e w1 ⟨rfl, hb1⟩
   go_wp2_with fail
   (with_reducible refine (ps_linkage w1 s x L (HM.out.belw hb1) HR.out).mono ?_); rintro e w2 ⟨A, n, c, B, p, d, C, q, f, rfl, hL, hb2⟩
   have hb := hb1.trans (hb2.mono hb1.size)
   rw [eVp hx]
   clear hx hL hb1 hb2 hx0
   go_wp2_with fail
   go_ret
   exact retB rfl (hb.alloc hb.size _)
  subst hx
  obtain ⟨l, hF⟩ := endsF hsl HR.out
  obtain ⟨hsp, ⟨h3, h4⟩, ⟨y, Ly, hy, hRy⟩, hless, hjl⟩ := hF
  have HSP := Lib.hid hsp
  have HRY := Lib.hid hRy
  have HY := Lib.hid hy
  have HLS := Lib.hid hless
  have HJ := Lib.hid hjl
  have ha1 := app_v s [10, 120]
  have k1 : (9223372036854775807 < s.length + 2) = False := by simp; omega
  clear hsp hRy hy hless hjl
  go_enter Tryz.func9, Tryz.ntmps9
  go_wp2_with fail
  (with_reducible refine (l20_awake w HM.out).mono ?_); rintro e w1 ⟨rfl, hb1⟩
  go_wp2_with fail
  (with_reducible refine (ps_linkage w1 s 0 L (HM.out.belw hb1) HR.out).mono ?_); rintro e w2 ⟨A, n, c, B, p, d, C, q, f, rfl, hL, hb2⟩
  rw [errV_0]
  have hb := hb1.trans (hb2.mono hb1.size)
  clear hL hb1 hb2
  go_wp2_with fail
  have q2 := hb.alloc hb.size (.cells #[strV L.name, .slice A n c, .slice B p d, .slice C q f] 36)
  (refine (t_split_x _ s 0 l HSP.out).mono ?_); rintro e w3 ⟨A1, n1, c1, rfl, hS, hb3⟩
  rw [errV_0]
  have q3 := q2.trans (hb3.mono q2.size)
  obtain rfl : l.length = n1 := hS.1
  have HS := Lib.hid hS
  have hn3 : ((l.length : Int) < 3) = False := by simp; omega
  clear hb hb3 q2 hS
  go_wp2_with fail
  (refine (ps_linkage w3 (s ++ [10, 120]) y Ly (HM.out.belw q3) HRY.out).mono ?_); rintro e w4 ⟨A2, n2, c2, B2, p2, d2, C2, q2, f2, rfl, hL4, hb4⟩
  rw [eVp HY.out]
  have q4 := q3.trans (hb4.mono q3.size)
  have HS4 := Lib.hid (HS.out.belw hb4)
  obtain ⟨g, t, e, hc, ht, d0, d1, _⟩ := HS4.out.cells (i := l.length - 1) (by omega)
  subst e
  have hgl : g < w4.heap.size := World.block_lt_of_cell? w4 _ d0
  have hne : ¬ g = w4.heap.size := by omega
  have hi : (((l.length - 1 : Nat) : Int)) = (l.length : Int) - 1 := by omega
  have hw : IntKind.i64.wrap ((l.length : Int) - 1) = ((l.length - 1 : Nat) : Int) := by rw [← hi]; exact wrap_i64 (by omega) (by omega)
  obtain ⟨m, hm⟩ : ∃ m, l.length - 1 = m := ⟨_, rfl⟩
  rw [hm] at hw d0 d1 HLS HJ
  have hml : m < l.length := by omega
  have HT := Lib.hid (HS4.out.take_ (k := m) (by omega) (by omega))
  clear hL4 hb4 HS d0 HS4 HRY HY ht
  by_cases ht59 : t.text = [59]
  rotate_left
  ·have hn := toList_v t.text
   have hb0 : (t.text == [59]) = false := beq_eq_false_iff_ne.2 ht59
   go_wp2_with fail
   go_ret
   exact retB rfl (q4.alloc q4.size _)
  rw [ht59] at d1
  by_cases hl3 : l.length = 3
  ·have e3 : ((l.length : Int) == 3) = true := by simp; omega
   clear hl3
   go_wp2_with fail
   go_ret
   exact retB rfl (q4.alloc q4.size _)
  have e3 : ((l.length : Int) == 3) = false := beq_eq_false_iff_ne.2 (by omega)
  have e4 : ((l.length : Int) = 3) = False := by simp; omega
  go_wp2_with fail
  have hq := (brefl w4).alloc (Nat.le_refl _) (.cells #[strV Ly.name, .slice A2 n2 c2, .slice B2 p2 d2, .slice C2 q2 f2] 36)
  have q5 := q4.trans (hq.mono q4.size)
  have HT5 := Lib.hid (HT.out.belw hq)
  (refine (t_join _ (some ⟨g, 0, none⟩) m c1 (l.take m) HT5.out (by omega) (by have := HJ.out; omega)).mono ?_); rintro e w5 ⟨rfl, hb5⟩
  have q6 := q5.trans (hb5.mono q5.size)
  clear hq q5 HT HT5 hb5 d1
  obtain ⟨T, hT⟩ : ∃ T, joinT ((l.take m).map Tkn.text) = T := ⟨_, rfl⟩
  rw [hT] at HLS ⊢
  clear hT HJ
  go_wp2_with fail
  (refine (ps_linkage w5 T 18 L0 (HM.out.belw q6) HLS.out).mono ?_); rintro e w6 ⟨A3, n3, c3, B3, p3, d3, C3, q3', f3, rfl, hL6, hb6⟩
  have q7 := q6.trans (hb6.mono q6.size)
  rw [eVp (by decide : (18 : Int) ≠ 0)]
  clear hL6 hb6
  go_wp2_with fail
  (with_reducible refine (b_is w6 18).mono ?_); rintro e w7 ⟨rfl, hb7⟩
  have q8 := q7.trans (hb7.mono q7.size)
  go_wp2_with fail
  go_ret
  exact retB rfl q8
end Go.Proofs.YtoiijifnfdgfpaaGreatDoor

/- ParseEnds: a text that is read is not read with a word more, nor without its last token; for every input the law returns true. The listed library variables are tied to the program text. -/
namespace Go.Proofs.YtoiijifnfdgfpaaGreatDoor
open Go Go.RowKit Bn Go.ChangeShapes Go.WideShapes Go.ChangeAt
theorem ends_contract (H : Type) (enc : TypeId × Value → H) (W : World) (base : Nat) (args : Array Value) (ds gs : List (DataW H)) (before : List MemPlace)
    (hval0 : ∀ (j : Nat) t v, Tryz.f9.params[j]? = some t → args[j]? = some v → Value.okWide Tryz.prog W .any base t v)
    (hW : DataW.Whole enc Tryz.prog Tryz.f9.params.toList Rows.parseEndsSpec.vars false W args.toList ds gs before) (hL : laidMetH Tryz.prog Rows.parseEndsRow.laid W) (hsh : W.ShapedOpen Tryz.prog) :
    Calls Tryz.prog 9 args W fun e W' => ∃ v, e = .returned v ∧ Rows.parseEndsSpec.post enc Tryz.prog Tryz.f9 false true false false W args v W' := by
  have hval : ∀ (j : Nat) t v, Tryz.f9.params[j]? = some t → args[j]? = some v → Value.okWide Tryz.prog W .any base t v := hval0
  have htab : Tab W := tab_of_laid hL
  have hmx : Mx W := mx_of_shaped hsh
  have hW' := hW
  obtain ⟨p, q, hA0, hV, rfl, hfz, hnd⟩ := hW
  have hA : DataW.TrodAll enc Tryz.prog W 0 (fun _ => true) true Tryz.f9.params.toList args.toList ds p := hA0
  rw [Tryz.params9] at hA hval
  obtain ⟨v0, d0, rfl, rfl, h0⟩ := trodAll_one hA
  obtain ⟨rfl, rfl⟩ := trodVars_none hV
  obtain ⟨s, rfl, rfl, rfl, hs⟩ := Go.ChangeMaps.open_string Tryz.underlying9 (hval 0 _ v0 rfl rfl) h0
  obtain ⟨t, rfl⟩ : ∃ t : List UInt8, s = ⟨t.toArray⟩ := ⟨s.data.toList, by simp⟩
  have ht : t.length < 9223372036854775808 := by unfold maxLen at hs; have h9 : t.length ≤ _ := hs; omega
  refine (l_ParseEnds W t ht htab hmx).mono fun e W' ⟨he, hb⟩ => ?_
  subst he
  exact ⟨_, rfl, law_post laid_out Tryz.underlying4 hW' rfl rfl (by kernel_rfl) rfl rfl rfl hb⟩
theorem ends_lifted (os : Os) (started : os.Started) (H : Type) (enc : TypeId × Value → H) (F : Stop.Interp) :
    ReturnsInHanded {} Tryz.checked os 9 .any ((OpenSpec.ofChange Rows.parseEndsSpec).preRow enc Tryz.prog Tryz.f9 Rows.parseEndsRow.domain false Rows.parseEndsRow.laid) (((OpenSpec.ofChange Rows.parseEndsSpec).at F).post enc Tryz.prog Tryz.f9 false true false false) := by
  have hx : DataW.whole enc Tryz.prog ((laidWorld os).forCall (fun _ _ => 0) ⟨#[], #[.string ⟨#[]⟩], []⟩).memory Tryz.f9.params.toList Rows.parseEndsSpec.vars false (#[.string ⟨#[]⟩] : Array Value).toList 8 = some ([.lit (.string [])], [], []) := by kernel_rfl
  have hl : laidMet Tryz.prog Rows.parseEndsRow.laid ((laidWorld os).forCall (fun _ _ => 0) ⟨#[], #[.string ⟨#[]⟩], []⟩).memory := laidMet_of_run' 8 (by kernel_rfl) (by kernel_rfl)
  refine returnsInHanded_of_row (C := Tryz.checked) (s := OpenSpec.ofChange Rows.parseEndsSpec) own_knob started (by kernel_rfl) Tryz.func9
    (witness_row_at (enc := enc) (C := Tryz.checked) false (laidWorld os) #[.string ⟨#[]⟩] rfl (by kernel_rfl) (by kernel_rfl) (by kernel_rfl)
      (OpenSpec.preRow_of_cond 8 hx (by kernel_rfl) (fun k hk => by cases hk) (by kernel_rfl) hl)) ?_
  intro W base args ds gs before hval hW _ _ _ hL hsh _
  exact ends_contract H enc W base args ds gs before hval hW hL hsh
theorem ends_j2 : (Rows.parseEndsRow.inPlace == Tryz.pinned.checked.prog.inPlace 9) = true := by kernel_rfl
theorem ends_j3 : (Rows.parseEndsRow.unfollowed == Tryz.pinned.checked.prog.unfollowed 9) = true := by kernel_rfl
theorem ends_j4 : (Rows.parseEndsRow.recurses == Tryz.pinned.checked.prog.recurses 9) = true := by kernel_rfl
theorem ends_j5 : (Rows.parseEndsRow.named == Tryz.pinned.checked.prog.varsNamed 9) = true := by kernel_rfl
theorem ends_joined : joinedFacts Tryz.pinned.checked.prog 9 Tryz.f9 (OpenSpec.ofChange Rows.parseEndsSpec).bare Rows.parseEndsRow = true := joined_parts (by kernel_rfl) ends_j2 ends_j3 ends_j4 ends_j5 (by kernel_rfl)
theorem ends_inst : Tryz.f9.isInstance Tryz.pinned.checked.prog Rows.parseEndsRow.origin Rows.parseEndsRow.targs := of_decide_eq_true (by kernel_rfl)
theorem ends_said : Rows.ParseEndsSaid :=
  OpenClaim.holds_of_cond 9 Tryz.f9 rfl rfl rfl rfl rfl rfl rfl ⟨rfl, rfl, rfl, rfl, rfl⟩ rfl rfl rfl rfl rfl (by kernel_rfl) Tryz.func9 ends_joined
    ends_inst (by unfold Func.isWrapper; first | (rw [if_pos (by decide +kernel)]; kernel_rfl) | (rw [if_neg (by decide +kernel)]; exact ⟨rfl, rfl⟩))
    (fun os started H enc _ F => by rw [OpenClaim.pre_eq_preRow]; exact ends_lifted os started H enc F)
theorem ends_plain (f : FuncId) (fn : Func) (hf : Tryz.pinned.checked.prog.funcNamed "linkwork/linkworklaw20.ParseEnds" = some f) (hfn : Tryz.pinned.checked.prog.funcs[f]? = some fn) :
    true = Tryz.pinned.checked.prog.looks [] ∧ ∀ (j : Nat) t, fn.params[j]? = some t → Tryz.pinned.checked.prog.wantsStandIn t = false := by
  obtain rfl : f = 9 := Option.some.inj ((show Tryz.prog.funcNamed "linkwork/linkworklaw20.ParseEnds" = some 9 by kernel_rfl).symm.trans hf) |>.symm
  obtain rfl : fn = Tryz.f9 := (Option.some.inj (Tryz.func9.symm.trans hfn)).symm
  refine ⟨by kernel_rfl, fun j t ht => ?_⟩
  rw [Tryz.params9] at ht
  have hm : t ∈ [9] := by
    have := Array.mem_of_getElem? ht
    simp at this ⊢
    first
      | exact this
      | exact .inl this
  have hall : ([9].all fun u => !Tryz.prog.wantsStandIn u) = true := by kernel_rfl
  exact (show Tryz.prog.wantsStandIn t = false by simpa using List.all_eq_true.1 hall t hm)
theorem ends_holds : Rows.ParseEndsCardSaid :=
  Claim7.holds_tied_plain_at .later [] _ _ _ _ ends_said (fun _ h => by cases h) (by kernel_rfl) (fun _ h => by cases h) parseEnds_row_tie rfl ⟨rfl, rfl⟩ (by kernel_rfl) rfl ends_plain (by kernel_rfl)
end Go.Proofs.YtoiijifnfdgfpaaGreatDoor
