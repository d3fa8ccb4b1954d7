/- Part A2: lemmas and walks that the claim rests on. No claim is made here. -/
import Derived.Lib.AppendIntMem
import Derived.Laws.OwnMore
import Derived.Deep.AppendLies
import Derived.Deep.RegionHeld3
import Derived.Deep.DrawnRows
import Derived.Lib.ItoaNum
import Derived.BigQuiet
import Derived.Test.YtjanfdkbficmbaaGreatDoorCards
import Derived.Test.YtjanfdkbficmbaaGreatDoorTie
import Derived.ProofKit
import Derived.WalkKit
import Derived.OpenShut
import Derived.Deep.DeepHandedRow
import Derived.Lib.LaidTab
import Derived.Shelf.Vars
import Derived.Deep.DeepCutAuto
import Derived.Deep.RegionHeld
import Derived.Lib.Atoi
import Derived.Lib.SlTrimSet
import Derived.Shelf.Strings.SlTrimAscii
import Derived.WalkSpells
import Derived.Test.YtjanfdkbficmbaaGreatDoorA1
set_option linter.unusedVariables false
set_option maxHeartbeats 8000000
set_option maxRecDepth 100000
/- Walks: the reference's sums and differences of lists. -/
namespace Go.Proofs.YtjanfdkbficmbaaGreatDoor
open Go Go.RowKit Bn

theorem wd_snoc_lt {L : List Nat} {d i : Nat} (h : i < L.length) : wd (L ++ [d]) i = wd L i := by
  simp [wd, List.getD, List.getElem?_append_left h]
theorem wd_snoc {L : List Nat} {d : Nat} : wd (L ++ [d]) L.length = d := by simp [wd, List.getD]
theorem Sm_snoc {L : List Nat} {d k : Nat} (h : L.length = k) : Sm (wd (L ++ [d])) (k + 1) = Sm (wd L) k + d * 4294967296 ^ k := by
  subst h
  rw [Sm, wd_snoc, Sm_congr (fun i hi => wd_snoc_lt hi)]
theorem wds_snoc {L : List Nat} {d : Nat} (h : Wds L) (hd : d < 4294967296) : Wds (L ++ [d]) := by
  intro x hx
  rcases List.mem_append.1 hx with h1 | h1
  · exact h x h1
  · simp at h1; omega
theorem words_snoc (L : List Nat) (d : Nat) : words (L ++ [d]) = words L ++ [.int .u32 (d : Nat)] := by simp [words]
theorem own_base {w : World} {base : Nat} {e : TypeId} {size : Nat} {v : Value} {n : Nat} {xs : List Value} (h : w.ownsRow base e size v n xs) : ∀ b, v.ownBlock = some b → base ≤ b := by
  intro b hb
  rcases h.2 with ⟨rfl, _⟩ | ⟨g, c, cur, rfl, h1, _⟩
  · simp [Value.ownBlock] at hb
  · simp [Value.ownBlock] at hb; omega
theorem r_plus_1 (w : World) (A : Option Addr) (n c : Nat) (l : List Nat) (wa : Wd w A n c l) (hn : n ≤ 1099511627776) (A' : Option Addr) (n' c' : Nat) (l' : List Nat) (wb : Wd w A' n' c' l') (hn' : n' ≤ 1099511627776) (hle : n ≤ n') :
  Calls Tryz.prog 100 #[.slice A n c, .slice A' n' c'] w (RetL w (digs (val l + val l'))) := by
 have HL := Lib.hid wa.2.1
 have HL' := Lib.hid wb.2.1
 obtain ⟨i0, hi0, hz0, hz1, hz2⟩ := info_parts info_u32
 go_enter Tryz.func100, Tryz.ntmps100
 go_wp2_with fail
 go_loopw [5, 6, 15] (fun ov cv iv wr => ∃ (k cr : Nat) (L : List Nat), k ≤ n' + 1 ∧ iv = .int .i64 (k : Nat) ∧ cv = .int .u64 (cr : Nat) ∧ cr ≤ 1 ∧ L.length = k ∧ PlusI l l' L k cr ∧ wr.ownsRow w.heap.size 79 1 ov k (words L) ∧ Below w.heap.size w wr) (fun _ _ iv _ => n' + 1 - (intOf iv).toNat)
 case atStart => exact ⟨0, 0, [], Nat.zero_le _, rfl, rfl, by omega, rfl, ⟨by simp [Wds], by simp [Sm]⟩, ⟨rfl, .inl ⟨rfl, rfl⟩⟩, brefl _⟩
 case round =>
  obtain ⟨k, cr, L, hk, rfl, rfl, hcr, hLk, hI, hown, hbel⟩ := hrel
  have hKp := Lib.hid ((Kp.refl w).below hbel)
  have HI := Lib.hid hI
  have HLk := Lib.hid hLk
  have HO := Lib.hid hown
  clear hI hLk hown
  by_cases hkM : k < n' + 1
  ·obtain ⟨x, y, hx, hy⟩ : ∃ x y, wd l k = x ∧ wd l' k = y := ⟨_, _, rfl, rfl⟩
   have hx1 : x < 4294967296 := by rw [← hx]; exact wa.lt k
   have hy1 : y < 4294967296 := by rw [← hy]; exact wb.lt k
   have HX := Lib.hid hx
   have HY := Lib.hid hy
   have hsz := hbel.size
   have HD := Lib.hid (plus_step (x := x) (y := y) HI.out.2)
   clear hx hy
   go_wp2_with (first
    | (go_at_call 122; (with_reducible refine (r_word_x _ A n c l ?_ k x HX.out (by omega)).mono ?_); exact wa.keep hKp.out; rintro e w' ⟨rfl, rfl⟩)
    | (go_at_call 122; (with_reducible refine (r_word_x _ A' n' c' l' ?_ k y HY.out (by omega)).mono ?_); exact wb.keep hKp.out; rintro e w' ⟨rfl, rfl⟩)
    | (at_builtin; refine wpList_append_lies _ rfl _ _ _ rfl w.heap.size 79 i0 (.int .u32 0) 1 4 Tryz.underlying30 hi0 hz0 hz1 hz2 rfl (by omega) _ k (words L) rfl (HO.out.alloc _) ⟨wr.heap.size, 0, none⟩ 1 1 [_] rfl rfl (World.news_of_block (heap_alloc_new wr _)) (by simp [Value.oneCell']) (by omega) (by unfold maxLen; omega) (by omega) (by simp; omega) (wr.heap.size + 1) (by simp) ?_; intro gx cap w1 hown1 hgrow hat hlt1))
   go_roundw
   case rel =>
    refine ⟨k + 1, (cr + x + y) / 4294967296, L ++ [(cr + x + y) % 4294967296], by omega, by go_num, by congr 1; omega, by omega, by simp [HLk.out], ⟨wds_snoc HI.out.1 (Nat.mod_lt _ (by omega)), ?_⟩, ?_, (hbel.alloc hbel.size _).grown hgrow (by simp; omega) (own_base HO.out)⟩
    ·rw [Sm_snoc HLk.out, Sm, Sm, HX.out, HY.out, Nat.pow_succ]
     exact HD.out
    ·have e : (Value.int .u32 (((x : Int) + y + cr) % 4294967296)) = .int .u32 (((cr + x + y) % 4294967296 : Nat) : Int) := by congr 1; omega
     rw [words_snoc, ← e]; exact hown1
   case measure => simp [intOf]; omega
  ·have hkk : k = n' + 1 := by omega
   have hv : val L = val l + val l' := by
    have h1 := HI.out.2
    have h2 := val_lt wa.1
    have h3 := val_lt wb.1
    rw [Sm_ge L (by rw [HLk.out]; exact Nat.le_refl _), Sm_ge l (by rw [← HL.out]; omega), Sm_ge l' (by rw [← HL'.out]; omega)] at h1
    have h4 : 4294967296 ^ l.length ≤ 4294967296 ^ (k - 1) := Nat.pow_le_pow_right (by omega) (by rw [← HL.out]; omega)
    have h5 : 4294967296 ^ l'.length ≤ 4294967296 ^ (k - 1) := Nat.pow_le_pow_right (by omega) (by rw [← HL'.out]; omega)
    have h6 : 4294967296 ^ k = 4294967296 ^ (k - 1) * 4294967296 := by rw [← Nat.pow_succ]; congr 1; omega
    rcases (show cr = 0 ∨ cr = 1 by omega) with rfl | rfl
    ·omega
    ·omega
   have HV := Lib.hid hv
   obtain ⟨gx, cap, rfl, _, _⟩ := HO.out.form (by omega)
   clear hv hkk
   go_wp2_with fail
   (with_reducible refine (r_trim_c _ _ k cap L ?_ ?_).mono ?_); (exact Wd.of_own HO.out HI.out.1); (omega); rintro e w1 ⟨A1, n1, c1, rfl, h1, hb1⟩
   go_wp2
   go_ret
   rw [HV.out] at h1
   exact ⟨_, _, _, rfl, h1, hbel.trans (hb1.mono hbel.size)⟩
theorem r_plus_2 (w : World) (A : Option Addr) (n c : Nat) (l : List Nat) (wa : Wd w A n c l) (hn : n ≤ 1099511627776) (A' : Option Addr) (n' c' : Nat) (l' : List Nat) (wb : Wd w A' n' c' l') (hn' : n' ≤ 1099511627776) (hle : n' < n) :
  Calls Tryz.prog 100 #[.slice A n c, .slice A' n' c'] w (RetL w (digs (val l + val l'))) := by
 have HL := Lib.hid wa.2.1
 have HL' := Lib.hid wb.2.1
 obtain ⟨i0, hi0, hz0, hz1, hz2⟩ := info_parts info_u32
 go_enter Tryz.func100, Tryz.ntmps100
 go_wp2_with fail
 go_loopw [5, 6, 15] (fun ov cv iv wr => ∃ (k cr : Nat) (L : List Nat), k ≤ n + 1 ∧ iv = .int .i64 (k : Nat) ∧ cv = .int .u64 (cr : Nat) ∧ cr ≤ 1 ∧ L.length = k ∧ PlusI l l' L k cr ∧ wr.ownsRow w.heap.size 79 1 ov k (words L) ∧ Below w.heap.size w wr) (fun _ _ iv _ => n + 1 - (intOf iv).toNat)
 case atStart => exact ⟨0, 0, [], Nat.zero_le _, rfl, rfl, by omega, rfl, ⟨by simp [Wds], by simp [Sm]⟩, ⟨rfl, .inl ⟨rfl, rfl⟩⟩, brefl _⟩
 case round =>
  obtain ⟨k, cr, L, hk, rfl, rfl, hcr, hLk, hI, hown, hbel⟩ := hrel
  have hKp := Lib.hid ((Kp.refl w).below hbel)
  have HI := Lib.hid hI
  have HLk := Lib.hid hLk
  have HO := Lib.hid hown
  clear hI hLk hown
  by_cases hkM : k < n + 1
  ·obtain ⟨x, y, hx, hy⟩ : ∃ x y, wd l k = x ∧ wd l' k = y := ⟨_, _, rfl, rfl⟩
   have hx1 : x < 4294967296 := by rw [← hx]; exact wa.lt k
   have hy1 : y < 4294967296 := by rw [← hy]; exact wb.lt k
   have HX := Lib.hid hx
   have HY := Lib.hid hy
   have hsz := hbel.size
   have HD := Lib.hid (plus_step (x := x) (y := y) HI.out.2)
   clear hx hy
   go_wp2_with (first
    | (go_at_call 122; (with_reducible refine (r_word_x _ A n c l ?_ k x HX.out (by omega)).mono ?_); exact wa.keep hKp.out; rintro e w' ⟨rfl, rfl⟩)
    | (go_at_call 122; (with_reducible refine (r_word_x _ A' n' c' l' ?_ k y HY.out (by omega)).mono ?_); exact wb.keep hKp.out; rintro e w' ⟨rfl, rfl⟩)
    | (at_builtin; refine wpList_append_lies _ rfl _ _ _ rfl w.heap.size 79 i0 (.int .u32 0) 1 4 Tryz.underlying30 hi0 hz0 hz1 hz2 rfl (by omega) _ k (words L) rfl (HO.out.alloc _) ⟨wr.heap.size, 0, none⟩ 1 1 [_] rfl rfl (World.news_of_block (heap_alloc_new wr _)) (by simp [Value.oneCell']) (by omega) (by unfold maxLen; omega) (by omega) (by simp; omega) (wr.heap.size + 1) (by simp) ?_; intro gx cap w1 hown1 hgrow hat hlt1))
   go_roundw
   case rel =>
    refine ⟨k + 1, (cr + x + y) / 4294967296, L ++ [(cr + x + y) % 4294967296], by omega, by go_num, by congr 1; omega, by omega, by simp [HLk.out], ⟨wds_snoc HI.out.1 (Nat.mod_lt _ (by omega)), ?_⟩, ?_, (hbel.alloc hbel.size _).grown hgrow (by simp; omega) (own_base HO.out)⟩
    ·rw [Sm_snoc HLk.out, Sm, Sm, HX.out, HY.out, Nat.pow_succ]
     exact HD.out
    ·have e : (Value.int .u32 (((x : Int) + y + cr) % 4294967296)) = .int .u32 (((cr + x + y) % 4294967296 : Nat) : Int) := by congr 1; omega
     rw [words_snoc, ← e]; exact hown1
   case measure => simp [intOf]; omega
  ·have hkk : k = n + 1 := by omega
   have hv : val L = val l + val l' := by
    have h1 := HI.out.2
    have h2 := val_lt wa.1
    have h3 := val_lt wb.1
    rw [Sm_ge L (by rw [HLk.out]; exact Nat.le_refl _), Sm_ge l (by rw [← HL.out]; omega), Sm_ge l' (by rw [← HL'.out]; omega)] at h1
    have h4 : 4294967296 ^ l.length ≤ 4294967296 ^ (k - 1) := Nat.pow_le_pow_right (by omega) (by rw [← HL.out]; omega)
    have h5 : 4294967296 ^ l'.length ≤ 4294967296 ^ (k - 1) := Nat.pow_le_pow_right (by omega) (by rw [← HL'.out]; omega)
    have h6 : 4294967296 ^ k = 4294967296 ^ (k - 1) * 4294967296 := by rw [← Nat.pow_succ]; congr 1; omega
    rcases (show cr = 0 ∨ cr = 1 by omega) with rfl | rfl
    ·omega
    ·omega
   have HV := Lib.hid hv
   obtain ⟨gx, cap, rfl, _, _⟩ := HO.out.form (by omega)
   clear hv hkk
   go_wp2_with fail
   (with_reducible refine (r_trim_c _ _ k cap L ?_ ?_).mono ?_); (exact Wd.of_own HO.out HI.out.1); (omega); rintro e w1 ⟨A1, n1, c1, rfl, h1, hb1⟩
   go_wp2
   go_ret
   rw [HV.out] at h1
   exact ⟨_, _, _, rfl, h1, hbel.trans (hb1.mono hbel.size)⟩
theorem r_plus_c (w : World) (A : Option Addr) (n c : Nat) (l : List Nat) (wa : Wd w A n c l) (hn : n ≤ 1099511627776) (A' : Option Addr) (n' c' : Nat) (l' : List Nat) (wb : Wd w A' n' c' l') (hn' : n' ≤ 1099511627776) :
    Calls Tryz.prog 100 #[.slice A n c, .slice A' n' c'] w (RetL w (digs (val l + val l'))) := by
  rcases Nat.lt_or_ge n' n with h | h
  · exact r_plus_2 w A n c l wa hn A' n' c' l' wb hn' h
  · exact r_plus_1 w A n c l wa hn A' n' c' l' wb hn' h
end Go.Proofs.YtjanfdkbficmbaaGreatDoor

/- Walks: integer.Text. -/
namespace Go.Proofs.YtjanfdkbficmbaaGreatDoor
open Go Go.RowKit Bn

def Tab (w : World) : Prop := Lib.TabIs Tryz.prog w "internal/strconv.uint64pow10" .u64 Lib.pow10Tab
theorem Tab.belw {w w' : World} (h : Tab w) (hb : Below w.heap.size w w') : Tab w' := Lib.tabBelow_of_tabIs h w' hb
abbrev strV (l : List UInt8) : Value := .string ⟨l.toArray⟩
def strs (ps : List (List UInt8)) : List Value := ps.map strV
theorem info_str : (Tryz.prog.info? 9).map (fun i => (i.zero, i.size, i.bytes)) = some (some (.string ⟨#[]⟩), 1, 16) := by kernel_rfl
def StrL (w : World) (p : Value) (ps : List (List UInt8)) : Prop := (ps = [] ∧ p = .slice none 0 0) ∨ (ps ≠ [] ∧ ∃ g cap, p = .slice (some ⟨g, 0, none⟩) ps.length cap ∧ g < w.heap.size ∧ ps.length ≤ cap ∧ ∀ j, j < ps.length → w.cell? ⟨g, j, none⟩ = (strs ps)[j]?)
theorem StrL.belw {w w' : World} {p : Value} {ps : List (List UInt8)} (h : StrL w p ps) (hb : Below w.heap.size w w') : StrL w' p ps := by
  rcases h with h | ⟨h0, g, cap, h1, h2, h3, h4⟩
  · exact .inl h
  · refine .inr ⟨h0, g, cap, h1, Nat.lt_of_lt_of_le h2 hb.size, h3, fun j hj => ?_⟩
    rw [← h4 j hj]
    simp only [World.cell?, hb.block g h2]
theorem StrL.one (w : World) (S : List UInt8) : StrL (w.alloc (.cells #[strV S] 9)) (.slice (some ⟨w.heap.size, 0, none⟩) 1 1) [S] := by
  refine .inr ⟨by simp, _, _, rfl, by simp, Nat.le_refl _, fun j hj => ?_⟩
  rw [World.cell?_alloc_new]
  have : j = 0 := by simpa using hj
  subst this
  rfl
theorem StrL.own {w : World} {base g cap : Nat} {S : List UInt8} {ps : List (List UInt8)} (h : w.ownsRow base 9 1 (.slice (some ⟨g, 0, none⟩) (1 + ps.length) cap) (1 + ps.length) ([strV S] ++ strs ps)) (hg : g < w.heap.size) :
    StrL w (.slice (some ⟨g, 0, none⟩) (1 + ps.length) cap) (S :: ps) := by
  refine .inr ⟨by simp, g, cap, by rw [List.length_cons, Nat.add_comm], hg, ?_, fun j hj => ?_⟩
  · rcases h.2 with ⟨e, _⟩ | ⟨g', c', cur, e, _, _, hc, _⟩
    · exact absurd e (by simp)
    · injection e with _ _ e2
      rw [List.length_cons]; omega
  · rw [h.cellAt j (by rw [List.length_cons] at hj; omega)]
    rfl
end Go.Proofs.YtjanfdkbficmbaaGreatDoor

/- Division bit by bit: plain numbers. -/
namespace Bn
theorem wd_val {l : List Nat} (h : Wds l) (j : Nat) : wd l j = val l / 4294967296 ^ j % 4294967296 := by
  have e := Sm_ge l (show l.length ≤ j + (l.length + 1) by omega)
  have h1 : Sm (wd l) j < 4294967296 ^ j := Sm_lt (fun i _ => wd_lt h i)
  rw [Sm_add, Sm_shift] at e
  simp only [Nat.add_zero] at e
  generalize Sm (fun i => wd l (j + (i + 1))) l.length = X at e
  rw [← e, Nat.add_mul_div_left _ _ (pow_pos' j), Nat.div_eq_of_lt h1, Nat.zero_add, Nat.add_mul_mod_self_left]
  exact (Nat.mod_eq_of_lt (wd_lt h j)).symm
theorem pow_split (i : Nat) : 4294967296 ^ (i / 32) * 2 ^ (i % 32) = 2 ^ i := by
  have : (4294967296 : Nat) ^ (i / 32) = 2 ^ (32 * (i / 32)) := by rw [Nat.pow_mul]
  rw [this, ← Nat.pow_add, Nat.div_add_mod]
theorem wd_bit {l : List Nat} (h : Wds l) (i : Nat) : wd l (i / 32) / 2 ^ (i % 32) % 2 = val l / 2 ^ i % 2 := by
  rw [wd_val h, ← pow_split i, ← Nat.div_div_eq_div_mul]
  generalize val l / 4294967296 ^ (i / 32) = x
  have hs : i % 32 < 32 := Nat.mod_lt _ (by decide)
  generalize i % 32 = s at *
  have h1 := Nat.testBit_mod_two_pow x 32 s
  simp only [hs, decide_true, Bool.true_and, Nat.testBit_eq_decide_div_mod_eq] at h1
  have h2 : (x % 2 ^ 32 / 2 ^ s % 2 = 1) ↔ (x / 2 ^ s % 2 = 1) := by simpa using h1
  have e : (2 : Nat) ^ 32 = 4294967296 := by decide
  rw [e] at h2
  omega
theorem val_set (L : List Nat) (j x : Nat) (h : j < L.length) : val (L.set j x) + wd L j * 4294967296 ^ j = val L + x * 4294967296 ^ j := by
  have := Sm_set_mid L j x L.length h h
  rw [Sm_ge (L.set j x) (by simp), Sm_ge L (Nat.le_refl _)] at this
  exact this
theorem or_pow {x s : Nat} (hx : x % 2 ^ (s + 1) = 0) : x ||| 2 ^ s = x + 2 ^ s := by
  have h := Nat.shiftLeft_add_eq_or_of_lt (b := 2 ^ s) (i := s + 1) (Nat.pow_lt_pow_right (by omega) (by omega)) (x / 2 ^ (s + 1))
  rw [Nat.shiftLeft_eq, Nat.div_mul_cancel (Nat.dvd_of_mod_eq_zero hx)] at h
  exact h.symm
theorem or_bit {L : List Nat} (h : Wds L) (i : Nat) (hi : i / 32 < L.length) {m : Nat} (hv : val L = m * 2 ^ (i + 1)) :
    wd L (i / 32) ||| 2 ^ (i % 32) = wd L (i / 32) + 2 ^ (i % 32) ∧ wd L (i / 32) + 2 ^ (i % 32) < 4294967296 ∧ val (L.set (i / 32) (wd L (i / 32) + 2 ^ (i % 32))) = val L + 2 ^ i := by
  have hs : i % 32 < 32 := Nat.mod_lt _ (by decide)
  have hx : wd L (i / 32) % 2 ^ (i % 32 + 1) = 0 := by
    rw [wd_val h, hv, Nat.pow_succ, ← pow_split i]
    have e1 : m * (4294967296 ^ (i / 32) * 2 ^ (i % 32) * 2) = 4294967296 ^ (i / 32) * (m * 2 ^ (i % 32 + 1)) := by rw [Nat.pow_succ]; grind
    rw [e1, Nat.mul_div_cancel_left _ (pow_pos' _)]
    have e2 : (4294967296 : Nat) = 2 ^ (i % 32 + 1) * 2 ^ (31 - i % 32) := by rw [← Nat.pow_add, show i % 32 + 1 + (31 - i % 32) = 32 by omega]
    rw [e2, Nat.mod_mul_right_mod, Nat.mul_mod_left]
  refine ⟨or_pow hx, ?_, ?_⟩
  · have h1 : wd L (i / 32) ||| 2 ^ (i % 32) < 2 ^ 32 := Nat.or_lt_two_pow (wd_lt h _) (Nat.pow_lt_pow_right (by omega) hs)
    rw [or_pow hx] at h1; exact h1
  · have h1 := val_set L (i / 32) (wd L (i / 32) + 2 ^ (i % 32)) hi
    rw [Nat.add_mul, Nat.mul_comm (2 ^ (i % 32)), pow_split] at h1
    omega
theorem bit_high (a k : Nat) : a / 2 ^ k = 2 * (a / 2 ^ (k + 1)) + a / 2 ^ k % 2 := by
  rw [Nat.pow_succ, ← Nat.div_div_eq_div_mul]; omega
theorem bit_in {a v k r : Nat} (hr : r = 2 * (a / 2 ^ (k + 1) % v) + a / 2 ^ k % 2) (h : v ≤ r) (hv : 0 < v) :
    a / 2 ^ k / v = 2 * (a / 2 ^ (k + 1) / v) + 1 ∧ a / 2 ^ k % v = r - v := by
  have e := bit_high a k
  generalize a / 2 ^ (k + 1) = hi at *
  generalize hb : a / 2 ^ k % 2 = b at *
  have hb1 : b ≤ 1 := by omega
  rw [e]
  have hm := Nat.mod_lt hi hv
  have hd := Nat.div_add_mod hi v
  have e2 : 2 * hi + b = v * (2 * (hi / v) + 1) + (r - v) := by
    rw [Nat.mul_add, Nat.mul_one]
    have : v * (2 * (hi / v)) = 2 * (v * (hi / v)) := by grind
    omega
  have hlt : r - v < v := by omega
  rw [e2]
  constructor
  · rw [Nat.mul_add_div hv, Nat.div_eq_of_lt hlt, Nat.add_zero]
  · rw [Nat.mul_add_mod, Nat.mod_eq_of_lt hlt]
theorem bit_out {a v k r : Nat} (hr : r = 2 * (a / 2 ^ (k + 1) % v) + a / 2 ^ k % 2) (h : r < v) :
    a / 2 ^ k / v = 2 * (a / 2 ^ (k + 1) / v) ∧ a / 2 ^ k % v = r := by
  have hv : 0 < v := by omega
  have e := bit_high a k
  generalize a / 2 ^ (k + 1) = hi at *
  generalize hb : a / 2 ^ k % 2 = b at *
  rw [e]
  have hd := Nat.div_add_mod hi v
  have e2 : 2 * hi + b = v * (2 * (hi / v)) + r := by
    have : v * (2 * (hi / v)) = 2 * (v * (hi / v)) := by grind
    omega
  rw [e2]
  constructor
  · rw [Nat.mul_add_div hv, Nat.div_eq_of_lt h, Nat.add_zero]
  · rw [Nat.mul_add_mod, Nat.mod_eq_of_lt h]
def DblI (l L : List Nat) (b k cr : Nat) : Prop := (∀ i, k ≤ i → wd L i = wd l i) ∧ Sm (wd L) k + cr * 4294967296 ^ k = 2 * Sm (wd l) k + b
theorem DblI.start (l : List Nat) (b : Nat) : DblI l l b 0 b := ⟨fun _ _ => rfl, by simp [Sm]⟩
theorem dbl_word {x c : Nat} (hc : c ≤ 1) (hx : x < 4294967296) : (x * 2 % 4294967296 ||| c) = x * 2 % 4294967296 + c ∧ x * 2 % 4294967296 + c < 4294967296 ∧ x / 2147483648 ≤ 1 := by
  refine ⟨?_, by omega, by omega⟩
  have h := Nat.shiftLeft_add_eq_or_of_lt (b := c) (i := 1) (by omega) (x * 2 % 4294967296 / 2)
  rw [Nat.shiftLeft_eq, Nat.pow_one, show x * 2 % 4294967296 / 2 * 2 = x * 2 % 4294967296 by omega] at h
  exact h.symm
theorem DblI.step {l L : List Nat} {b k cr x : Nat} (h : DblI l L b k cr) (hx : wd l k = x) (hlt : x < 4294967296) (hk : k < L.length) :
    DblI l (L.set k (x * 2 % 4294967296 + cr)) b (k + 1) (x / 2147483648) := by
  refine ⟨fun i hi => ?_, ?_⟩
  · rw [wd_set, if_neg (by omega)]; exact h.1 i (by omega)
  · rw [Sm_set_succ _ _ _ hk, Sm, hx, Nat.pow_succ]
    have h2 := h.2
    have e : x * 2 % 4294967296 + x / 2147483648 * 4294967296 = 2 * x := by omega
    have e2 : x * 2 % 4294967296 * 4294967296 ^ k + x / 2147483648 * (4294967296 ^ k * 4294967296) = 2 * (x * 4294967296 ^ k) := by
      have : (x * 2 % 4294967296 + x / 2147483648 * 4294967296) * 4294967296 ^ k = 2 * x * 4294967296 ^ k := by rw [e]
      rw [Nat.add_mul] at this
      have e3 : x / 2147483648 * (4294967296 ^ k * 4294967296) = x / 2147483648 * 4294967296 * 4294967296 ^ k := by grind
      rw [e3, ← Nat.mul_assoc]; exact this
    rw [Nat.add_mul]
    omega
theorem DblI.fin {l L : List Nat} {b k cr : Nat} (h : DblI l L b k cr) (hl : l.length = k) (hL : L.length = k) (hs : 2 * val l + b < 4294967296 ^ k) : val L = 2 * val l + b := by
  have h2 := h.2
  rw [Sm_ge L (by omega), Sm_ge l (by omega)] at h2
  rcases Nat.eq_zero_or_pos cr with e | e
  · subst e; omega
  · have : 1 * 4294967296 ^ k ≤ cr * 4294967296 ^ k := Nat.mul_le_mul_right _ e
    omega
theorem dbl_room {r v b m : Nat} (hr : r < v) (hv : v < 4294967296 ^ m) (hb : b ≤ 1) : 2 * r + b < 4294967296 ^ (m + 1) := by
  rw [Nat.pow_succ]; omega
end Bn

/- Roots: plain numbers. -/
namespace Bn
theorem pow_sq (k : Nat) : 2 ^ k * 2 ^ k = 2 ^ (2 * k) := by rw [← Nat.pow_add]; congr 1; omega
def RootI (M r i : Nat) : Prop := r * r ≤ M ∧ M < (r + 2 ^ i) * (r + 2 ^ i)
theorem RootI.start {M N : Nat} (h : M < 2 ^ N) : RootI M 0 (N / 2 + 1) := by
  refine ⟨Nat.zero_le _, ?_⟩
  rw [Nat.zero_add, pow_sq]
  exact Nat.lt_of_lt_of_le h (Nat.pow_le_pow_right (by omega) (by omega))
theorem RootI.no {M r i : Nat} (h : RootI M r (i + 1)) (hx : ¬ (r + 2 ^ i) * (r + 2 ^ i) ≤ M) : RootI M r i := ⟨h.1, by omega⟩
theorem RootI.fin {M r : Nat} (h : RootI M r 0) : isq M = r := isq_of h.1 (by have := h.2; simpa using this)
end Bn

/- Numbers of bits: plain numbers. -/
namespace Bn
theorem val_rep (n : Nat) : val (List.replicate n 0) = 0 := by
  induction n with
  | zero => rfl
  | succ n ih => rw [List.replicate_succ, val, ih]
end Bn

/- Walks: the reference's lists that are changed in their place. -/
namespace Go.Proofs.YtjanfdkbficmbaaGreatDoor
open Go Go.RowKit Bn

def OwS (w : World) (B g n cap : Nat) (l : List Nat) : Prop := w.ownsRow B 79 1 (.slice (some ⟨g, 0, none⟩) n cap) n (words l) ∧ Wds l
theorem OwS.len {w : World} {B g n cap : Nat} {l : List Nat} (h : OwS w B g n cap l) : n = l.length := by have := h.1.1; rw [words_len] at this; omega
theorem OwS.base {w : World} {B g n cap : Nat} {l : List Nat} (h : OwS w B g n cap l) : B ≤ g := own_base h.1 g rfl
theorem OwS.toWd {w : World} {B g n cap : Nat} {l : List Nat} (h : OwS w B g n cap l) : Wd w (some ⟨g, 0, none⟩) n cap l := Wd.of_own h.1 h.2
theorem OwS.cell {w : World} {B g n cap : Nat} {l : List Nat} (h : OwS w B g n cap l) (i : Nat) (hi : i < n) : w.cell? ⟨g, i, none⟩ = some (.int .u32 (wd l i : Nat)) := by
  rw [h.1.cellAt i (by omega)]; exact words_get (by rw [← h.len]; exact hi)
theorem OwS.frozen {w : World} {B g n cap : Nat} {l : List Nat} (h : OwS w B g n cap l) (i : Nat) : w.frozen? ⟨g, i, none⟩ = false := h.1.frozenAt i
theorem OwS.lt {w : World} {B g n cap : Nat} {l : List Nat} (h : OwS w B g n cap l) : g < w.heap.size := by
  rcases h.1.2 with ⟨e, _⟩ | ⟨g', c', cur, e, _, hg, _⟩
  · cases e
  · injection e with e; injection e with e; injection e with e; subst e; exact lt_of_block hg
theorem OwS.cap {w : World} {B g n cap : Nat} {l : List Nat} (h : OwS w B g n cap l) : n ≤ cap := h.toWd.2.2.1
theorem OwS.cut {w : World} {B g n cap : Nat} {l : List Nat} (h : OwS w B g n cap l) {k : Nat} (hk : k ≤ n) : OwS w B g k cap (l.take k) := by
  have hl := h.len
  refine ⟨⟨by rw [words_len, List.length_take]; omega, ?_⟩, Wds.take h.2 k⟩
  rcases h.1.2 with ⟨e, _⟩ | ⟨g', c', cur, e, hb, hg, hc, hm, hs, ht⟩
  · cases e
  · injection e with e1 _ e2; injection e1 with e1; injection e1 with e1; subst e1 e2
    refine .inr ⟨g, cap, cur, rfl, hb, hg, by omega, hm, hs, ?_⟩
    have : words (l.take k) = (words l).take k := by simp [words, List.map_take]
    rw [this, ← ht, List.take_take]; congr 1; omega
theorem words_set (l : List Nat) (i x : Nat) : (words l).set i (.int .u32 (x : Nat)) = words (l.set i x) := by simp [words, List.map_set]
theorem OwS.set {w : World} {B g n cap : Nat} {l : List Nat} (h : OwS w B g n cap l) (i : Nat) {x : Nat} (hx : x < 4294967296) {z : Int} (hz : z = x) : OwS (w.setCell ⟨g, i, none⟩ (.int .u32 z)) B g n cap (l.set i x) := by
  subst hz
  refine ⟨?_, wds_set h.2 i hx⟩
  rw [← words_set]
  exact (h.1.stored i _).1
def Only (g : Nat) (w w' : World) : Prop := Below g w w' ∧ w'.heap.size = w.heap.size ∧ ∀ b, b ≠ g → w'.heap[b]? = w.heap[b]?
theorem Only.refl (g : Nat) (w : World) : Only g w w := ⟨Below.refl _ _, rfl, fun _ _ => rfl⟩
theorem Only.set {g : Nat} {w w' : World} (h : Only g w w') (i : Nat) (u : Value) : Only g w (w'.setCell ⟨g, i, none⟩ u) :=
  ⟨h.1.setCell (p := ⟨g, i, none⟩) (Nat.le_refl _) u, by rw [← h.2.1]; simp [World.setCell], fun b hb => (Below.heap_setCell w' ⟨g, i, none⟩ u b hb).trans (h.2.2 b hb)⟩
theorem Only.trans {g : Nat} {a b c : World} (h : Only g a b) (k : Only g b c) : Only g a c := ⟨h.1.trans k.1, k.2.1.trans h.2.1, fun x hx => (k.2.2 x hx).trans (h.2.2 x hx)⟩
theorem Only.own {g : Nat} {w w' : World} (h : Only g w w') {B g' n cap : Nat} {l : List Nat} (k : OwS w B g' n cap l) (hg : g' ≠ g) : OwS w' B g' n cap l := by
  refine ⟨⟨k.1.1, ?_⟩, k.2⟩
  rcases k.1.2 with ⟨e, _⟩ | ⟨g1, c', cur, e, hb, hgg, r⟩
  · cases e
  · have e' := e
    injection e with e1 _ e2; injection e1 with e1; injection e1 with e1; subst e1
    exact .inr ⟨g', c', cur, e', hb, (h.2.2 _ hg).trans hgg, r⟩
theorem Only.wd {g : Nat} {w w' : World} (h : Only g w w') {g' o n c : Nat} {l : List Nat} (k : Wd w (some ⟨g', o, none⟩) n c l) (hg : g' ≠ g) : Wd w' (some ⟨g', o, none⟩) n c l := by
  refine ⟨k.1, k.2.1, k.2.2.1, fun hn => ?_⟩
  obtain ⟨g1, o1, cur, fr, e, hb, hc⟩ := k.2.2.2 hn
  have e' := e
  injection e with e1; injection e1 with e1; subst e1
  exact ⟨_, o1, cur, fr, e', hb.same (h.2.2 _ hg), hc⟩
def RetO (w : World) (l : List Nat) (e : Ending) (w' : World) : Prop := ∃ g k cap, e = .returned (.slice (some ⟨g, 0, none⟩) k cap) ∧ OwS w' w.heap.size g k cap l ∧ Below w.heap.size w w'
theorem r_trim_o (w : World) (A : Option Addr) (n c : Nat) (l : List Nat) (h : Wd w A n c l) (hn : n ≤ 4398046511104) :
  Calls Tryz.prog 79 #[.slice A n c] w (RetO w (digs (val l))) := by
 have HL := Lib.hid h.2.1
 have hcap : n ≤ c := h.2.2.1
 obtain ⟨i0, hi0, hz0, hz1, hz2⟩ := info_parts info_u32
 by_cases h0 : n = 0
 ·subst h0
  have HE := Lib.hid (show digs (val l) = [] by rw [List.eq_nil_of_length_eq_zero HL.out.symm]; exact digs_zero)
  clear h hn
  go_enter Tryz.func79, Tryz.ntmps79
  go_wp2_with (at_builtin; refine wpList_append_empty rfl _ _ _ rfl 79 i0 Tryz.underlying30 hi0 _ _ _ rfl rfl ?_)
  go_loop [3] (fun v => v = .slice (some ⟨w.heap.size, 0, none⟩) 0 0) (fun _ => 0)
  case atStart => rfl
  case round =>
   subst hrel
   go_wp2
   go_ret
   refine ⟨_, _, _, rfl, ?_, (Below.refl _ _).alloc (Nat.le_refl _) _⟩
   rw [HE.out]
   exact ⟨World.ownsRow_lit (e := 79) (size := 1) w #[] 0 (Nat.le_refl _) (by simp [maxLen]) rfl, by simp [Wds]⟩
 ·obtain ⟨g, o, rfl, hc⟩ := h.at_ (by omega)
  clear hc
  have hp : 0 < n := by omega
  have hown := World.ownsRow_lit (e := 79) (size := 1) w #[] 0 (Nat.le_refl _) (by simp [maxLen]) rfl
  have hnews := (h.keep ((Kp.refl w).alloc (.cells #[] 79))).news (by omega) (Nat.le_refl _)
  have hnl : (words (l.take n)).length = n * 1 := by rw [words_len, List.length_take, ← HL.out]; omega
  have HO := Lib.hid hown
  have HN := Lib.hid hnews
  have HNL := Lib.hid hnl
  have HW := Lib.hid h.1
  clear hown hnews hnl h h0
  go_enter Tryz.func79, Tryz.ntmps79
  go_wp2_with (at_builtin; refine wpList_append_lies _ rfl _ _ _ rfl w.heap.size 79 i0 (.int .u32 0) 1 4 Tryz.underlying30 hi0 hz0 hz1 hz2 rfl (by omega) _ 0 [] rfl HO.out ⟨g, o, none⟩ n c (words (l.take n)) rfl HNL.out HN.out (words_one _) (by omega) (by unfold maxLen; omega) (by omega) (by simp) (w.heap.size + 1) (by simp) ?_; intro gx cap w1 hown1 hgrow hat hlt1)
  simp only [Nat.zero_add, List.nil_append] at hown1
  have hw1 := Wd.of_own hown1 (Wds.take HW.out n)
  rw [List.take_of_length_le (Nat.le_of_eq HL.out.symm)] at hw1
  have hbel := ((Below.refl w.heap.size w).alloc (Nat.le_refl _) (.cells #[] 79)).grown hgrow (by simp) (fun b hb => Nat.le_of_eq (Option.some.inj hb))
  have HW1 := Lib.hid hw1
  rw [List.take_of_length_le (Nat.le_of_eq HL.out.symm)] at hown1
  have HOW := Lib.hid (show OwS w1 w.heap.size gx n cap l from ⟨hown1, HW.out⟩)
  have HB := Lib.hid hbel
  have hcap1 : n ≤ cap := hw1.2.2.1
  clear hown1 hgrow hat hw1 hbel HO HN HNL
  go_loop [3] (fun v => ∃ k : Nat, k ≤ n ∧ v = .slice (some ⟨gx, 0, none⟩) k cap ∧ TrimI l k) (fun v => match v with | .slice _ k _ => k | _ => 0)
  case atStart => exact ⟨n, Nat.le_refl _, by simp, fun i hi => wd_ge (by rw [← HL.out]; exact hi)⟩
  case round =>
   obtain ⟨k, hk, rfl, ht⟩ := hrel
   by_cases h0 : k = 0
   ·subst h0
    have HT := Lib.hid ht
    clear ht
    go_wp2
    go_ret
    refine ⟨_, _, _, rfl, ?_, HB.out⟩
    have := digs_of_take HW.out (Nat.zero_le _) HT.out (.inl rfl)
    rw [this]; exact HOW.out.cut (Nat.zero_le _)
   ·have hkp : 0 < k := by omega
    obtain ⟨g', o', e, hc⟩ := HW1.out.at_ (by omega)
    injection e with e; injection e with e1 e2
    subst e1 e2
    have hck := hc (k - 1) (by omega)
    rw [Nat.zero_add] at hck
    have hlt := HW1.out.lt (k - 1)
    have HT := Lib.hid ht
    generalize hx : wd l (k - 1) = x at *
    have HX := Lib.hid hx
    clear hc h0 ht hx
    by_cases hz : x = 0
    ·subst hz
     go_wp2
     go_round
     case rel => exact ⟨k - 1, by omega, rfl, fun i hi => by
      by_cases he : i = k - 1
      ·subst he; exact HX.out
      ·exact HT.out i (by omega)⟩
     case measure => dsimp only; omega
    ·have hz' : ((x : Int) == 0) = false := by simp; omega
     have HZ := Lib.hid hz
     clear hz
     go_wp2
     go_ret
     have hd := digs_of_take HW.out (by rw [← HL.out]; exact hk) HT.out (.inr (by rw [HX.out]; exact HZ.out))
     refine ⟨_, _, _, rfl, ?_, HB.out⟩
     rw [hd]; exact HOW.out.cut hk
def RetC (w : World) (B g cap : Nat) (l : List Nat) (e : Ending) (w' : World) : Prop := ∃ k, e = .returned (.slice (some ⟨g, 0, none⟩) k cap) ∧ OwS w' B g k cap l ∧ w = w'
theorem r_cut_o (w : World) (B g n cap : Nat) (l : List Nat) (h : OwS w B g n cap l) (hn : n ≤ 4398046511104) :
  Calls Tryz.prog 120 #[.slice (some ⟨g, 0, none⟩) n cap] w (RetC w B g cap (digs (val l))) := by
 have hcap := h.cap
 have HL := Lib.hid h.len
 have HO := Lib.hid h
 clear h
 go_enter Tryz.func120, Tryz.ntmps120
 go_wp2_with fail
 go_loop [0] (fun v => ∃ k : Nat, k ≤ n ∧ v = .slice (some ⟨g, 0, none⟩) k cap ∧ TrimI l k) (fun v => match v with | .slice _ k _ => k | _ => 0)
 case atStart => exact ⟨n, Nat.le_refl _, rfl, fun i hi => wd_ge (by rw [← HL.out]; exact hi)⟩
 case round =>
  obtain ⟨k, hk, rfl, ht⟩ := hrel
  by_cases h0 : k = 0
  ·subst h0
   have HT := Lib.hid ht
   clear ht
   go_wp2
   go_ret
   refine ⟨_, rfl, ?_, rfl⟩
   have := digs_of_take HO.out.2 (Nat.zero_le _) HT.out (.inl rfl)
   rw [this]; exact HO.out.cut (Nat.zero_le _)
  ·have hkp : 0 < k := by omega
   have hck := HO.out.cell (k - 1) (by omega)
   have hlt := wd_lt HO.out.2 (k - 1)
   have HT := Lib.hid ht
   generalize hx : wd l (k - 1) = x at *
   have HX := Lib.hid hx
   clear h0 ht hx
   by_cases hz : x = 0
   ·subst hz
    go_wp2
    go_round
    case rel => exact ⟨k - 1, by omega, rfl, fun i hi => by
     by_cases he : i = k - 1
     ·subst he; exact HX.out
     ·exact HT.out i (by omega)⟩
    case measure => dsimp only; omega
   ·have hz' : ((x : Int) == 0) = false := by simp; omega
    have HZ := Lib.hid hz
    clear hz
    go_wp2
    go_ret
    have hd := digs_of_take HO.out.2 (by rw [← HL.out]; exact hk) HT.out (.inr (by rw [HX.out]; exact HZ.out))
    refine ⟨_, rfl, ?_, rfl⟩
    rw [hd]; exact HO.out.cut hk
end Go.Proofs.YtjanfdkbficmbaaGreatDoor

/- Walks: the reference's halving in place. -/
namespace Go.Proofs.YtjanfdkbficmbaaGreatDoor
open Go Go.RowKit Bn

theorem half_nat {x y : Nat} (hx : x < 4294967296) : (x / 2 ||| y * 2147483648) % 4294967296 = x / 2 + (y % 2) * 2147483648 := by
  have h1 : x / 2 < 2 ^ 31 := by omega
  have h2 : y * 2147483648 ||| x / 2 = y * 2147483648 + x / 2 := by
    have := Nat.shiftLeft_add_eq_or_of_lt h1 y
    rw [Nat.shiftLeft_eq] at this
    exact this.symm
  rw [Nat.or_comm, h2]; omega
def HalveI (l L : List Nat) (j : Nat) : Prop := Wds L ∧ L.length = l.length ∧ (∀ i, j ≤ i → wd L i = wd l i) ∧ 2 * Sm (wd L) j + wd l 0 % 2 = Sm (wd l) j + wd l j % 2 * 4294967296 ^ j
theorem HalveI.start {l : List Nat} (h : Wds l) : HalveI l l 0 := ⟨h, rfl, fun _ _ => rfl, by simp [Sm]⟩
theorem HalveI.step {l L : List Nat} {j : Nat} (h : HalveI l L j) (hj : j < l.length) (hl : Wds l) : HalveI l (L.set j (wd l j / 2 + (wd l (j + 1) % 2) * 2147483648)) (j + 1) := by
  obtain ⟨h1, h2, h3, h4⟩ := h
  have hx := wd_lt hl j
  refine ⟨wds_set h1 j (by omega), by rw [List.length_set]; exact h2, fun i hi => ?_, ?_⟩
  · rw [wd_set, if_neg (by omega)]; exact h3 i (by omega)
  · rw [Sm_set_succ _ _ _ (by omega), Sm]
    generalize wd l j = x at *
    generalize wd l (j + 1) = y at *
    generalize wd l 0 = z at *
    rw [Nat.pow_succ]
    have e : 2 * ((x / 2 + y % 2 * 2147483648) * 4294967296 ^ j) + x % 2 * 4294967296 ^ j = x * 4294967296 ^ j + y % 2 * (4294967296 ^ j * 4294967296) := by
      have hx2 : x = 2 * (x / 2) + x % 2 := by omega
      generalize x / 2 = p at *
      generalize x % 2 = r at *
      subst hx2
      generalize 4294967296 ^ j = P
      grind
    omega
theorem HalveI.fin {l L : List Nat} (h : HalveI l L l.length) : val L = val l / 2 := by
  obtain ⟨h1, h2, h3, h4⟩ := h
  rw [Sm_ge L (by omega), Sm_ge l (Nat.le_refl _), wd_ge (Nat.le_refl _)] at h4
  omega
theorem half_word {x y : Nat} (hx : x < 4294967296) (hy : y < 4294967296) {s : Int} (hs : bits .or .u64 ((x : Int) / 2) ((y : Int) * 2147483648) = s) : IntKind.u32.wrap s = ((x / 2 + y % 2 * 2147483648 : Nat) : Int) := by
  have e1 : (x : Int) / 2 = ((x / 2 : Nat) : Int) := by omega
  have e2 : (y : Int) * 2147483648 = ((y * 2147483648 : Nat) : Int) := by simp
  rw [e1, e2, u64_or_nat _ _ (by omega) (by omega)] at hs
  subst hs
  rw [IntKind.wrap_u32]
  have := half_nat (y := y) hx
  omega
def RetH (w : World) (B g cap : Nat) (l : List Nat) (e : Ending) (w' : World) : Prop := ∃ k, e = .returned (.slice (some ⟨g, 0, none⟩) k cap) ∧ OwS w' B g k cap l ∧ Only g w w'
theorem r_halve_o (w : World) (B g n cap : Nat) (l : List Nat) (h : OwS w B g n cap l) (hn : n ≤ 1099511627776) :
  Calls Tryz.prog 117 #[.slice (some ⟨g, 0, none⟩) n cap] w (RetH w B g cap (digs (val l / 2))) := by
 have hcap := h.cap
 have hlen := h.len
 have HL := Lib.hid h.len
 have HW := Lib.hid h.2
 have HS := Lib.hid (HalveI.start h.2)
 have HO := Lib.hid h
 clear h hlen
 go_enter Tryz.func117, Tryz.ntmps117
 go_wp2_with fail
 go_loopw [6] (fun iv wr => ∃ (j : Nat) (L : List Nat), j ≤ n ∧ iv = .int .i64 (j : Nat) ∧ HalveI l L j ∧ OwS wr B g n cap L ∧ Only g w wr) (fun iv _ => n - (intOf iv).toNat)
 case atStart => exact ⟨0, l, Nat.zero_le _, rfl, HS.out, HO.out, Only.refl _ _⟩
 case round =>
  obtain ⟨j, L, hj, rfl, hI, hw, hon⟩ := hrel
  have HI := Lib.hid hI
  have HWr := Lib.hid hw
  have HOn := Lib.hid hon
  clear hI hw hon
  by_cases hlt : j < n
  ·obtain ⟨x, y, hx, hy⟩ : ∃ x y, wd l j = x ∧ wd l (j + 1) = y := ⟨_, _, rfl, rfl⟩
   have hx1 : x < 4294967296 := by rw [← hx]; exact wd_lt HW.out j
   have hy1 : y < 4294967296 := by rw [← hy]; exact wd_lt HW.out (j + 1)
   have HX := Lib.hid (show wd L j = x by rw [HI.out.2.2.1 j (Nat.le_refl _), hx])
   have HY := Lib.hid (show wd L (j + 1) = y by rw [HI.out.2.2.1 (j + 1) (by omega), hy])
   have HXY := Lib.hid (And.intro hx hy)
   have hck := HWr.out.cell j hlt
   have hfk := HWr.out.frozen j
   obtain ⟨s, hs⟩ : ∃ s, bits .or .u64 ((x : Int) / 2) ((y : Int) * 2147483648) = s := ⟨_, rfl⟩
   have e32 := half_word hx1 hy1 hs
   have HE := Lib.hid e32
   have ej : ((j : Int) + 1) = ((j + 1 : Nat) : Int) := by omega
   have HEJ := Lib.hid ej
   clear hx hy ej
   go_wp2_with (first
    | (go_at_call 122; (with_reducible refine (r_word_x _ (some ⟨g, 0, none⟩) n cap L ?_ j x HX.out (by omega)).mono ?_); exact HWr.out.toWd; rintro e w' ⟨rfl, rfl⟩)
    | (go_at_call 122; rw [HEJ.out]; (with_reducible refine (r_word_x _ (some ⟨g, 0, none⟩) n cap L ?_ (j + 1) y HY.out (by omega)).mono ?_); exact HWr.out.toWd; rintro e w' ⟨rfl, rfl⟩))
   go_roundw
   case rel =>
    have hst := HI.out.step (by rw [← HL.out]; exact hlt) HW.out
    rw [HXY.out.1, HXY.out.2] at hst
    exact ⟨j + 1, _, by omega, by go_num, hst, HWr.out.set j (by omega) (by omega), HOn.out.set j _⟩
   case measure => simp [intOf]; omega
  ·have hjn : j = n := by omega
   subst hjn
   have HV := Lib.hid (show val L = val l / 2 from HalveI.fin (by have := HI.out; rw [HL.out] at this; exact this))
   go_wp2_with fail
   (with_reducible refine (r_cut_o _ B g j cap L ?_ ?_).mono ?_); (exact HWr.out); (omega); rintro e w1 ⟨k, rfl, h1, rfl⟩
   go_wp2
   go_ret
   rw [HV.out] at h1
   exact ⟨k, rfl, h1, HOn.out⟩
end Go.Proofs.YtjanfdkbficmbaaGreatDoor

/- Walks: the reference's subtraction in place. -/
namespace Go.Proofs.YtjanfdkbficmbaaGreatDoor
open Go Go.RowKit Bn

theorem Only.wd_ {g : Nat} {w w' : World} (h : Only g w w') {A : Option Addr} {n c : Nat} {l : List Nat} (k : Wd w A n c l) (hne : ∀ ad, A = some ad → ad.block ≠ g) : Wd w' A n c l := by
  refine ⟨k.1, k.2.1, k.2.2.1, fun hn => ?_⟩
  obtain ⟨g1, o1, cur, fr, e, hb, hc⟩ := k.2.2.2 hn
  exact ⟨g1, o1, cur, fr, e, hb.same (h.2.2 _ (hne _ e)), hc⟩
def RetTk (w : World) (B g n cap : Nat) (v : Nat) (e : Ending) (w' : World) : Prop := ∃ L, e = .returned (.tuple #[]) ∧ OwS w' B g n cap L ∧ val L = v ∧ Only g w w'
def TakeI (l l' L : List Nat) (k br : Nat) : Prop := LessI l l' L k br ∧ L.length = l.length ∧ ∀ i, k ≤ i → wd L i = wd l i
theorem r_take_o (w : World) (B g n cap : Nat) (l : List Nat) (h : OwS w B g n cap l) (hn : n ≤ 1099511627776) (A' : Option Addr) (n' c' : Nat) (l' : List Nat) (wb : Wd w A' n' c' l') (hne : ∀ ad, A' = some ad → ad.block ≠ g) (hn' : n' ≤ n) (hv : val l' ≤ val l) :
  Calls Tryz.prog 119 #[.slice (some ⟨g, 0, none⟩) n cap, .slice A' n' c'] w (RetTk w B g n cap (val l - val l')) := by
 have hcap := h.cap
 have HL := Lib.hid h.len
 have HL' := Lib.hid wb.2.1
 have HW := Lib.hid h.2
 have HV := Lib.hid hv
 have HO := Lib.hid h
 have HWB := Lib.hid wb
 have HNE := Lib.hid hne
 clear h hv wb hne
 go_enter Tryz.func119, Tryz.ntmps119
 go_wp2_with fail
 go_loopw [4, 9] (fun cv iv wr => ∃ (k br : Nat) (L : List Nat), k ≤ n ∧ iv = .int .i64 (k : Nat) ∧ cv = .int .u64 (br : Nat) ∧ br ≤ 1 ∧ TakeI l l' L k br ∧ OwS wr B g n cap L ∧ Only g w wr) (fun _ iv _ => n - (intOf iv).toNat)
 case atStart => exact ⟨0, 0, l, Nat.zero_le _, rfl, rfl, by omega, ⟨⟨HW.out, by simp [Sm]⟩, rfl, fun _ _ => rfl⟩, HO.out, Only.refl _ _⟩
 case round =>
  obtain ⟨k, br, L, hk, rfl, rfl, hbr, hI, hw, hon⟩ := hrel
  have HI := Lib.hid hI
  have HWr := Lib.hid hw
  have HOn := Lib.hid hon
  clear hI hw hon
  by_cases hkM : k < n
  ·obtain ⟨x, y, hx, hy⟩ : ∃ x y, wd l k = x ∧ wd l' k = y := ⟨_, _, rfl, rfl⟩
   have hx1 : x < 4294967296 := by rw [← hx]; exact wd_lt HW.out k
   have hy1 : y < 4294967296 := by rw [← hy]; exact HWB.out.lt k
   have HX := Lib.hid (show wd L k = x by rw [HI.out.2.2 k (Nat.le_refl _), hx])
   have HY := Lib.hid hy
   have HXl := Lib.hid hx
   have hck := HWr.out.cell k hkM
   have hfk := HWr.out.frozen k
   clear hx hy
   go_wp2_with (first
    | (go_at_call 122; (with_reducible refine (r_word_x _ (some ⟨g, 0, none⟩) n cap L ?_ k x HX.out (by omega)).mono ?_); exact HWr.out.toWd; rintro e w' ⟨rfl, rfl⟩)
    | (go_at_call 122; (with_reducible refine (r_word_x _ A' n' c' l' ?_ k y HY.out (by omega)).mono ?_); exact HOn.out.wd_ HWB.out HNE.out; rintro e w' ⟨rfl, rfl⟩))
   go_roundw
   case rel =>
    refine ⟨k + 1, 1 - (4294967296 + x - y - br) / 4294967296, L.set k ((4294967296 + x - y - br) % 4294967296), by omega, by go_num, by congr 1; omega, by omega, ⟨⟨wds_set HI.out.1.1 _ (Nat.mod_lt _ (by omega)), ?_⟩, by rw [List.length_set]; exact HI.out.2.1, fun i hi => ?_⟩, HWr.out.set k (Nat.mod_lt _ (by omega)) (by omega), HOn.out.set k _⟩
    ·rw [Sm_set_succ _ _ _ (by rw [HI.out.2.1, ← HL.out]; exact hkM), Sm, Sm, HXl.out, HY.out, Nat.pow_succ]
     exact less_step HI.out.1.2 (by omega)
    ·rw [wd_set, if_neg (by omega)]; exact HI.out.2.2 i (by omega)
   case measure => simp [intOf]; omega
  ·have hkk : k = n := by omega
   subst hkk
   have hv2 : val L = val l - val l' := by
    have h1 := HI.out.1.2
    have h2 := val_lt HI.out.1.1
    have h3 := HV.out
    have h4 := HI.out.2.1
    have h5 := HL.out
    rw [h4, ← h5] at h2
    rw [Sm_ge L (by omega), Sm_ge l (by omega), Sm_ge l' (by rw [← HL'.out]; omega)] at h1
    rcases (show br = 0 ∨ br = 1 by omega) with rfl | rfl
    ·omega
    ·omega
   have HV2 := Lib.hid hv2
   clear hv2
   go_wp2_with fail
   go_end0
   exact ⟨L, rfl, HWr.out, HV2.out, HOn.out⟩
end Go.Proofs.YtjanfdkbficmbaaGreatDoor

/- Walks: the reference's greatest common divisor, by halving and subtracting. -/
namespace Go.Proofs.YtjanfdkbficmbaaGreatDoor
open Go Go.RowKit Bn

def Two (w wr : World) (N : Nat) (va vb : Value) (x y : Nat) : Prop := ∃ ga na ca gb nb cb, va = .slice (some ⟨ga, 0, none⟩) na ca ∧ vb = .slice (some ⟨gb, 0, none⟩) nb cb ∧ OwS wr w.heap.size ga na ca (digs x) ∧ OwS wr w.heap.size gb nb cb (digs y) ∧ ga ≠ gb ∧ Below w.heap.size w wr ∧ x < 4294967296 ^ N ∧ y < 4294967296 ^ N
theorem own_len {w : World} {B g n cap x N : Nat} (h : OwS w B g n cap (digs x)) (hx : x < 4294967296 ^ N) : n ≤ N := by rw [h.len]; exact length_digs_le hx
theorem own_pos {w : World} {B g n cap x : Nat} (h : OwS w B g n cap (digs x)) (hx : 0 < x) : 0 < n := by
  rw [h.len]; rcases Nat.eq_zero_or_pos (digs x).length with h1 | h1
  · have := digs_eq_nil.1 (List.eq_nil_of_length_eq_zero h1); omega
  · exact h1
theorem wd_digs0 (x : Nat) : wd (digs x) 0 = x % 4294967296 := by
  by_cases h : x = 0
  · subst h; rw [digs_zero]; rfl
  · rw [digs_pos h]; rfl
theorem own_head {w : World} {B g n cap x : Nat} (h : OwS w B g n cap (digs x)) (hx : 0 < x) : w.cell? ⟨g, 0, none⟩ = some (.int .u32 ((x % 4294967296 : Nat) : Int)) := by
  rw [← wd_digs0]; exact h.cell 0 (own_pos h hx)
theorem and_one (p : Nat) (hp : p < 4294967296) : Go.bits .and .u32 (p : Int) 1 = ((p % 2 : Nat) : Int) := by
  have := u32_and_nat p 1 hp (by decide)
  rw [Nat.and_one_is_mod] at this
  exact this
theorem even_u32 {p : Nat} (hp : p < 4294967296) (h : p % 2 = 0) : (Go.bits .and .u32 (p : Int) 1 == 0) = true := by rw [and_one p hp, h]; rfl
theorem odd_u32 {p : Nat} (hp : p < 4294967296) (h : p % 2 = 1) : (Go.bits .and .u32 (p : Int) 1 == 0) = false := by rw [and_one p hp, h]; rfl
theorem OwS.of_digs {w : World} {B g n cap v x : Nat} (h : OwS w B g n cap (digs (val (digs v) / x))) : OwS w B g n cap (digs (v / x)) := by rw [val_digs] at h; exact h
theorem Two.left {w wr w1 : World} {N ga na ca gb nb cb x y u k : Nat} (hT : Two w wr N (.slice (some ⟨ga, 0, none⟩) na ca) (.slice (some ⟨gb, 0, none⟩) nb cb) x y) (ho : OwS w1 w.heap.size ga k ca (digs u)) (hon : Only ga wr w1) (hu : u ≤ x) : Two w w1 N (.slice (some ⟨ga, 0, none⟩) k ca) (.slice (some ⟨gb, 0, none⟩) nb cb) u y := by
  obtain ⟨ga', na', ca', gb', nb', cb', e1, e2, oa, ob, hg, hbl, hxN, hyN⟩ := hT
  injection e1 with e1 e3 e4; injection e1 with e1; injection e1 with e1
  injection e2 with e2 e5 e6; injection e2 with e2; injection e2 with e2
  subst e1 e2 e3 e4 e5 e6
  exact ⟨ga, k, ca, gb, nb, cb, rfl, rfl, ho, hon.own ob (Ne.symm hg), hg, hbl.trans (hon.1.mono oa.base), Nat.lt_of_le_of_lt hu hxN, hyN⟩
theorem Two.swap {w wr : World} {N : Nat} {va vb : Value} {x y : Nat} (hT : Two w wr N va vb x y) : Two w wr N vb va y x := by
  obtain ⟨ga, na, ca, gb, nb, cb, e1, e2, oa, ob, hg, hbl, hxN, hyN⟩ := hT
  exact ⟨gb, nb, cb, ga, na, ca, e2, e1, ob, oa, Ne.symm hg, hbl, hyN, hxN⟩
theorem own_val {w : World} {B g n cap x : Nat} (h : OwS w B g n cap (digs x)) : valOf w (.slice (some ⟨g, 0, none⟩) n cap) = x := by rw [h.toWd.valOf, val_digs]
theorem Two.at_ {w wr : World} {N ga na ca gb nb cb x y : Nat} (hT : Two w wr N (.slice (some ⟨ga, 0, none⟩) na ca) (.slice (some ⟨gb, 0, none⟩) nb cb) x y) : OwS wr w.heap.size ga na ca (digs x) ∧ OwS wr w.heap.size gb nb cb (digs y) ∧ ga ≠ gb ∧ Below w.heap.size w wr ∧ x < 4294967296 ^ N ∧ y < 4294967296 ^ N := by
  obtain ⟨ga', na', ca', gb', nb', cb', e1, e2, h⟩ := hT
  injection e1 with e1 e3 e4; injection e1 with e1; injection e1 with e1
  injection e2 with e2 e5 e6; injection e2 with e2; injection e2 with e2
  subst e1 e2 e3 e4 e5 e6
  exact h
theorem OwS.belw {w w' : World} {B g n cap : Nat} {l : List Nat} (h : OwS w B g n cap l) (hb : Below w.heap.size w w') : OwS w' B g n cap l := by
  refine ⟨⟨h.1.1, ?_⟩, h.2⟩
  rcases h.1.2 with ⟨e, _⟩ | ⟨g', cap', cur, e, hb1, hgg, r⟩
  · cases e
  · exact .inr ⟨g', cap', cur, e, hb1, (hb.block g' (lt_of_block hgg)).trans hgg, r⟩
theorem Two.belw {w wr w1 : World} {N : Nat} {va vb : Value} {x y : Nat} (hT : Two w wr N va vb x y) (hb : Below wr.heap.size wr w1) : Two w w1 N va vb x y := by
  obtain ⟨ga, na, ca, gb, nb, cb, e1, e2, oa, ob, hg, hbl, hxN, hyN⟩ := hT
  exact ⟨ga, na, ca, gb, nb, cb, e1, e2, oa.belw hb, ob.belw hb, hg, hbl.trans (hb.mono hbl.size), hxN, hyN⟩
theorem digs_len_mono {a b : Nat} (h : a ≤ b) : (digs a).length ≤ (digs b).length := length_digs_le (Nat.lt_of_le_of_lt h (by have := val_lt (wds_digs b); rwa [val_digs] at this))
theorem Two.form {w wr : World} {N : Nat} {va vb : Value} {x y : Nat} (hT : Two w wr N va vb x y) : ∃ ga na ca gb nb cb, va = .slice (some ⟨ga, 0, none⟩) na ca ∧ vb = .slice (some ⟨gb, 0, none⟩) nb cb := by
  obtain ⟨ga, na, ca, gb, nb, cb, e1, e2, _⟩ := hT
  exact ⟨ga, na, ca, gb, nb, cb, e1, e2⟩
theorem two_bound {t x x0 N : Nat} (h : x0 = 2 ^ t * x) (hx : 0 < x) (hN : x0 < 4294967296 ^ N) : t < 32 * N := by
  have h1 : 2 ^ t ≤ x0 := by rw [h]; exact Nat.le_mul_of_pos_right _ hx
  have h2 : (4294967296 : Nat) ^ N = 2 ^ (32 * N) := by rw [Nat.pow_mul]
  rw [h2] at hN
  exact (Nat.pow_lt_pow_iff_right (by omega)).1 (Nat.lt_of_le_of_lt h1 hN)
theorem gcd_odd {x y : Nat} (h : ¬ (x % 2 = 0 ∧ y % 2 = 0)) : Nat.gcd x y % 2 = 1 := by
  rcases Nat.mod_two_eq_zero_or_one (Nat.gcd x y) with h1 | h1
  · exfalso
    have h2 : 2 ∣ Nat.gcd x y := Nat.dvd_of_mod_eq_zero h1
    exact h ⟨Nat.mod_eq_zero_of_dvd (Nat.dvd_trans h2 (Nat.gcd_dvd_left x y)), Nat.mod_eq_zero_of_dvd (Nat.dvd_trans h2 (Nat.gcd_dvd_right x y))⟩
  · exact h1
theorem gcd_half {u v G : Nat} (h : Nat.gcd u v = G) (hG : G % 2 = 1) (hu : u % 2 = 0) : Nat.gcd (u / 2) v = G := by
  have hv : v % 2 = 1 := by
    rcases Nat.mod_two_eq_zero_or_one v with h1 | h1
    · exfalso
      have h2 : 2 ∣ Nat.gcd u v := Nat.dvd_gcd (Nat.dvd_of_mod_eq_zero hu) (Nat.dvd_of_mod_eq_zero h1)
      rw [h] at h2
      have := Nat.mod_eq_zero_of_dvd h2
      omega
    · exact h1
  rw [gcd_left_even hu hv]; exact h
theorem r_gcd_c (w : World) (N : Nat) (hN : N ≤ 1099511627000) (A : Option Addr) (n c : Nat) (l : List Nat) (wa : Wd w A n c l) (hn : n ≤ N) (A' : Option Addr) (n' c' : Nat) (l' : List Nat) (wb : Wd w A' n' c' l') (hn' : n' ≤ N) (h0 : val l ≠ 0) (h0' : val l' ≠ 0) :
  Calls Tryz.prog 98 #[.slice A n c, .slice A' n' c'] w (RetL w (digs (Nat.gcd (val l) (val l')))) := by
 have hvl := wa.vlt hn
 have hvl' := wb.vlt hn'
 obtain ⟨x0, hx0⟩ : ∃ x, val l = x := ⟨_, rfl⟩
 obtain ⟨y0, hy0⟩ : ∃ y, val l' = y := ⟨_, rfl⟩
 rw [hx0] at hvl h0
 rw [hy0] at hvl' h0'
 rw [hx0, hy0]
 have HX0 := Lib.hid hx0
 have HY0 := Lib.hid hy0
 have HVX := Lib.hid hvl
 have HVY := Lib.hid hvl'
 have hxp : 0 < x0 := by omega
 have hyp : 0 < y0 := by omega
 clear hx0 hy0 hvl hvl' h0 h0'
 go_enter Tryz.func98, Tryz.ntmps98
 go_wp2_with fail
 (with_reducible refine (r_trim_o _ A n c l ?_ ?_).mono ?_); (exact wa); (omega); rintro e w1 ⟨ga, na, ca, rfl, h1, hb1⟩
 rw [HX0.out] at h1
 go_wp2_with fail
 (with_reducible refine (r_trim_o _ A' n' c' l' ?_ ?_).mono ?_); (exact wb.belw hb1); (omega); rintro e w2 ⟨gb, nb, cb, rfl, h2, hb2⟩
 rw [HY0.out] at h2
 have hg : ga ≠ gb := by have := h1.lt; have := h2.base; omega
 have h1' : OwS w2 w.heap.size ga na ca (digs x0) := by
  refine ⟨⟨h1.1.1, ?_⟩, h1.2⟩
  rcases h1.1.2 with ⟨e, _⟩ | ⟨g', cap', cur, e, hb, hgg, r⟩
  ·cases e
  ·exact .inr ⟨g', cap', cur, e, hb, (hb2.block g' (lt_of_block hgg)).trans hgg, r⟩
 have h2' : OwS w2 w.heap.size gb nb cb (digs y0) := by
  refine ⟨⟨h2.1.1, ?_⟩, h2.2⟩
  rcases h2.1.2 with ⟨e, _⟩ | ⟨g', cap', cur, e, hb, r⟩
  ·cases e
  ·exact .inr ⟨g', cap', cur, e, Nat.le_trans hb1.size hb, r⟩
 have HT := Lib.hid (show Two w w2 N (.slice (some ⟨ga, 0, none⟩) na ca) (.slice (some ⟨gb, 0, none⟩) nb cb) x0 y0 from ⟨ga, na, ca, gb, nb, cb, rfl, rfl, h1', h2', hg, hb1.trans (hb2.mono hb1.size), HVX.out, HVY.out⟩)
 have ea : ((na : Int) == 0) = false := by have := own_pos h1 hxp; simp; omega
 have eb : ((nb : Int) == 0) = false := by have := own_pos h2 hyp; simp; omega
 clear h1 h2 h1' h2' hb1 hb2 hg
 go_wp2_with fail
 go_loopw [0, 1, 5] (fun va vb tv wr => ∃ (x y t : Nat), Two w wr N va vb x y ∧ tv = .int .i64 (t : Nat) ∧ 0 < x ∧ 0 < y ∧ x0 = 2 ^ t * x ∧ y0 = 2 ^ t * y) (fun va _ _ wr => valOf wr va)
 case atStart => exact ⟨x0, y0, 0, HT.out, rfl, hxp, hyp, by simp, by simp⟩
 case round =>
  obtain ⟨x, y, t, hT, rfl, hx, hy, hex, hey⟩ := hrel
  obtain ⟨ga, na, ca, gb, nb, cb, rfl, rfl⟩ := hT.form
  have HT := Lib.hid hT
  have hca := own_head hT.at_.1 hx
  have hcb := own_head hT.at_.2.1 hy
  have hna := own_pos hT.at_.1 hx
  have hnb := own_pos hT.at_.2.1 hy
  have hnaN := own_len hT.at_.1 hT.at_.2.2.2.2.1
  have hnbN := own_len hT.at_.2.1 hT.at_.2.2.2.2.2
  obtain ⟨p, hp⟩ : ∃ p, x % 4294967296 = p := ⟨_, rfl⟩
  obtain ⟨q, hq⟩ : ∃ q, y % 4294967296 = q := ⟨_, rfl⟩
  rw [hp] at hca
  rw [hq] at hcb
  have hp1 : p < 4294967296 := by omega
  have hq1 : q < 4294967296 := by omega
  have hpx : x % 2 = p % 2 := by omega
  have hqy : y % 2 = q % 2 := by omega
  have ht : t < 32 * N := two_bound hex hx HVX.out
  have HE := Lib.hid (And.intro hex hey)
  have HP := Lib.hid (And.intro hpx hqy)
  clear hex hey hp hq hpx hqy hT
  by_cases hpe : p % 2 = 0 ∧ q % 2 = 0
  ·have ea := even_u32 hp1 hpe.1
   have eb := even_u32 hq1 hpe.2
   have HPE := Lib.hid hpe
   clear hpe
   go_wp2_with fail
   (with_reducible refine (r_halve_o _ w.heap.size ga na ca (digs x) ?_ ?_).mono ?_); (exact HT.out.at_.1); (omega); rintro e w1 ⟨k1, rfl, o1, hon1⟩
   have HT1 := Lib.hid (HT.out.left o1.of_digs hon1 (Nat.div_le_self _ _))
   clear o1 hon1 hca hcb
   go_wp2_with fail
   (with_reducible refine (r_halve_o _ w.heap.size gb nb cb (digs y) ?_ ?_).mono ?_); (exact HT1.out.at_.2.1); (omega); rintro e w2 ⟨k2, rfl, o2, hon2⟩
   have HT2 := Lib.hid (HT1.out.swap.left o2.of_digs hon2 (Nat.div_le_self _ _)).swap
   clear o2 hon2
   go_wp2_with fail
   go_roundw
   case rel =>
    have h1 : x = 2 * (x / 2) := by have := HP.out.1; have := HPE.out.1; omega
    have h2 : y = 2 * (y / 2) := by have := HP.out.2; have := HPE.out.2; omega
    exact ⟨x / 2, y / 2, t + 1, HT2.out, by go_num, by omega, by omega, by rw [HE.out.1, Nat.pow_succ, Nat.mul_assoc, ← h1], by rw [HE.out.2, Nat.pow_succ, Nat.mul_assoc, ← h2]⟩
   case measure =>
    rw [own_val HT2.out.at_.1, own_val HT.out.at_.1]
    omega
  ·have hGo : Nat.gcd x y % 2 = 1 := gcd_odd (by intro h; exact hpe ⟨by have := HP.out.1; omega, by have := HP.out.2; omega⟩)
   obtain ⟨G, hG⟩ : ∃ G, Nat.gcd x y = G := ⟨_, rfl⟩
   rw [hG] at hGo
   have HG := Lib.hid (And.intro hG hGo)
   have hGp : 0 < G := by omega
   clear hG hGo
   rcases (show p % 2 = 1 ∨ (p % 2 = 0 ∧ q % 2 = 1) by omega) with h1 | ⟨h1, h2⟩
   ·have ea := odd_u32 hp1 h1
    clear hpe h1
    go_wp2_with fail
    clear ea
    try clear eb
    have e5 : 0 < nb := hnb
    clear hca hcb hp1 hq1 hna hnb hnaN hnbN
    go_loopw [0, 1] (fun va vb wr => ∃ (u v : Nat), Two w wr N va vb u v ∧ 0 < v ∧ Nat.gcd u v = G) (fun va vb wr => valOf wr va + valOf wr vb)
    case atStart => exact ⟨x, y, HT.out, hy, HG.out.1⟩
    case round =>
     rename_i wr2
     obtain ⟨u, v, hT2, hv, hgu⟩ := hrel
     obtain ⟨ga2, na2, ca2, gb2, nb2, cb2, rfl, rfl⟩ := hT2.form
     have HT2 := Lib.hid hT2
     have HGU := Lib.hid hgu
     clear hT2 hgu
     by_cases hu : u = 0
     ·subst hu
      have e0 : na2 = 0 := by rw [HT2.out.at_.1.len, digs_zero]; rfl
      subst e0
      have HVG := Lib.hid (show v = G by have := HGU.out; simpa using this)
      go_wp2_with fail
      go_loopw [1, 65] (fun vb iv wr => ∃ (j : Nat) (B : Option Addr) (m cc : Nat), vb = .slice B m cc ∧ Wd wr B m cc (digs (2 ^ j * G)) ∧ m ≤ N ∧ iv = .int .i64 (j : Nat) ∧ j ≤ t ∧ Below w.heap.size w wr) (fun _ iv _ => t - (intOf iv).toNat)
      case atStart =>
       have := HVG.out
       subst this
       exact ⟨0, _, _, _, rfl, by simpa using HT2.out.at_.2.1.toWd, own_len HT2.out.at_.2.1 HT2.out.at_.2.2.2.2.2, rfl, Nat.zero_le _, HT2.out.at_.2.2.2.1⟩
      case round =>
       obtain ⟨j, B, m, cc, rfl, hw, hm, rfl, hj, hbl⟩ := hrel
       have HW := Lib.hid hw
       have HB := Lib.hid hbl
       clear hw hbl
       by_cases hlt : j < t
       ·go_wp2_with fail
        (with_reducible refine (r_plus_c _ B m cc (digs (2 ^ j * G)) ?_ ?_ B m cc (digs (2 ^ j * G)) ?_ ?_).mono ?_); (exact HW.out); (omega); (exact HW.out); (omega); rintro e w4 ⟨B', m', cc', rfl, h4, hb4⟩
        have hz : val (digs (2 ^ j * G)) + val (digs (2 ^ j * G)) = 2 ^ (j + 1) * G := by rw [val_digs, Nat.pow_succ]; grind
        rw [hz] at h4
        have HZ := Lib.hid hz
        have H4 := Lib.hid h4
        clear hz h4
        go_wp2_with fail
        go_roundw
        case rel =>
         refine ⟨j + 1, B', m', cc', rfl, H4.out, ?_, by go_num, by omega, HB.out.trans (hb4.mono HB.out.size)⟩
         rw [H4.out.2.1]
         refine length_digs_le (Nat.lt_of_le_of_lt ?_ HVX.out)
         rw [HE.out.1]
         refine Nat.le_trans (Nat.mul_le_mul_right G (Nat.pow_le_pow_right (by omega) (show j + 1 ≤ t by omega))) (Nat.mul_le_mul_left _ ?_)
         rw [← HG.out.1]; exact Nat.gcd_le_left _ hx
        case measure => simp [intOf]; omega
       ·have hjt : j = t := by omega
        subst hjt
        go_wp2
        go_ret
        refine ⟨B, m, cc, rfl, ?_, HB.out⟩
        rw [HE.out.1, HE.out.2, Nat.gcd_mul_left, HG.out.1]
        exact HW.out
     ·have hup : 0 < u := by omega
      have hnap := own_pos HT2.out.at_.1 hup
      go_wp2_with fail
      go_loopw [0] (fun va wr => ∃ (u' : Nat), Two w wr N va (.slice (some ⟨gb2, 0, none⟩) nb2 cb2) u' v ∧ 0 < u' ∧ Nat.gcd u' v = G ∧ u' ≤ u) (fun va wr => valOf wr va)
      case atStart => exact ⟨u, HT2.out, hup, HGU.out, Nat.le_refl _⟩
      case round =>
       rename_i wr3
       obtain ⟨u', hT3, hu', hgu3, hle3⟩ := hrel
       obtain ⟨ga3, na3, ca3, _, _, _, rfl, _⟩ := hT3.form
       have HT3 := Lib.hid hT3
       have HGU3 := Lib.hid hgu3
       have hc3 := own_head hT3.at_.1 hu'
       have hn3 := own_pos hT3.at_.1 hu'
       have hn3N := own_len hT3.at_.1 hT3.at_.2.2.2.2.1
       obtain ⟨p3, hp3⟩ : ∃ p, u' % 4294967296 = p := ⟨_, rfl⟩
       rw [hp3] at hc3
       have hp31 : p3 < 4294967296 := by omega
       have hpu : u' % 2 = p3 % 2 := by omega
       clear hT3 hgu3 hp3
       by_cases hpe3 : p3 % 2 = 0
       ·have ea3 := even_u32 hp31 hpe3
        have HU2 := Lib.hid (show u' % 2 = 0 by omega)
        clear hpe3 hpu
        go_wp2_with fail
        (with_reducible refine (r_halve_o _ w.heap.size ga3 na3 ca3 (digs u') ?_ ?_).mono ?_); (exact HT3.out.at_.1); (omega); rintro e w4 ⟨k4, rfl, o4, hon4⟩
        have HT4 := Lib.hid (HT3.out.left o4.of_digs hon4 (Nat.div_le_self _ _))
        clear o4 hon4 hc3
        go_wp2_with fail
        go_roundw
        case rel =>
         have := HU2.out
         exact ⟨u' / 2, HT4.out, by omega, gcd_half HGU3.out HG.out.2 this, by omega⟩
        case measure =>
         rw [own_val HT4.out.at_.1, own_val HT3.out.at_.1]
         have := HU2.out
         omega
       ·have ea3 := odd_u32 hp31 (show p3 % 2 = 1 by omega)
        clear hpe3 hpu
        go_wp2_with fail
        clear ea3 hc3
        go_loopw [1] (fun vb wr => ∃ (v' : Nat), Two w wr N (.slice (some ⟨ga3, 0, none⟩) na3 ca3) vb u' v' ∧ 0 < v' ∧ Nat.gcd u' v' = G ∧ v' ≤ v) (fun vb wr => valOf wr vb)
        case atStart => exact ⟨v, HT3.out, hv, HGU3.out, Nat.le_refl _⟩
        case round =>
         rename_i wr5
         obtain ⟨v', hT5, hv', hgu5, hle5⟩ := hrel
         obtain ⟨_, _, _, gb5, nb5, cb5, _, rfl⟩ := hT5.form
         have HT5 := Lib.hid hT5
         have HGU5 := Lib.hid hgu5
         have hc5 := own_head hT5.at_.2.1 hv'
         have hn5 := own_pos hT5.at_.2.1 hv'
         have hn5N := own_len hT5.at_.2.1 hT5.at_.2.2.2.2.2
         obtain ⟨p5, hp5⟩ : ∃ p, v' % 4294967296 = p := ⟨_, rfl⟩
         rw [hp5] at hc5
         have hp51 : p5 < 4294967296 := by omega
         have hpv : v' % 2 = p5 % 2 := by omega
         clear hT5 hgu5 hp5
         by_cases hpe5 : p5 % 2 = 0
         ·have ea5 := even_u32 hp51 hpe5
          have HU2 := Lib.hid (show v' % 2 = 0 by omega)
          clear hpe5 hpv
          go_wp2_with fail
          (with_reducible refine (r_halve_o _ w.heap.size gb5 nb5 cb5 (digs v') ?_ ?_).mono ?_); (exact HT5.out.at_.2.1); (omega); rintro e w6 ⟨k6, rfl, o6, hon6⟩
          have HT6 := Lib.hid (HT5.out.swap.left o6.of_digs hon6 (Nat.div_le_self _ _)).swap
          clear o6 hon6 hc5
          go_wp2_with fail
          go_roundw
          case rel =>
           have := HU2.out
           exact ⟨v' / 2, HT6.out, by omega, by rw [Nat.gcd_comm]; exact gcd_half (by rw [Nat.gcd_comm]; exact HGU5.out) HG.out.2 this, by omega⟩
          case measure =>
           rw [own_val HT6.out.at_.2.1, own_val HT5.out.at_.2.1]
           have := HU2.out
           omega
         ·have ea5 := odd_u32 hp51 (show p5 % 2 = 1 by omega)
          clear hpe5 hpv
          go_wp2_with fail
          clear ea5 hc5
          (with_reducible refine (r_compare_c _ (some ⟨ga3, 0, none⟩) na3 ca3 (digs u') ?_ ?_ (some ⟨gb5, 0, none⟩) nb5 cb5 (digs v') ?_ ?_).mono ?_); (exact HT5.out.at_.1.toWd); (omega); (exact HT5.out.at_.2.1.toWd); (omega); rintro e w6 ⟨rfl, hb6⟩
          have HT6 := Lib.hid (HT5.out.belw hb6)
          clear hb6
          rw [val_digs, val_digs]
          by_cases hlt : u' < v'
          ·rw [show cmpN u' v' = -1 by unfold cmpN; rw [if_pos hlt]]
           have HLE := Lib.hid (Nat.le_of_lt hlt)
           clear hlt
           go_wp2_with fail
           (with_reducible refine (r_take_o _ w.heap.size gb5 nb5 cb5 (digs v') ?_ ?_ (some ⟨ga3, 0, none⟩) na3 ca3 (digs u') ?_ ?_ ?_ ?_).mono ?_); (exact HT6.out.at_.2.1); (omega); (exact HT6.out.at_.1.toWd); (intro ad e; injection e with e; subst e; exact HT6.out.at_.2.2.1); (rw [HT6.out.at_.2.1.len, HT6.out.at_.1.len]; exact digs_len_mono HLE.out); (rw [val_digs, val_digs]; exact HLE.out); rintro e w7 ⟨L, rfl, o7, hv7, hon7⟩
           rw [val_digs, val_digs] at hv7
           have HV7 := Lib.hid hv7
           have HO7 := Lib.hid o7
           have HON7 := Lib.hid hon7
           clear hv7 o7 hon7
           go_wp2_with fail
           (with_reducible refine (r_cut_o _ w.heap.size gb5 nb5 cb5 L ?_ ?_).mono ?_); (exact HO7.out); (omega); rintro e w8 ⟨k8, rfl, o8, rfl⟩
           rw [HV7.out] at o8
           have HT8 := Lib.hid (HT6.out.swap.left o8 HON7.out (Nat.sub_le _ _))
           clear o8
           go_wp2_with fail
           go_roundw
           case rel => exact ⟨v' - u', u', HT8.out, hu', by rw [gcd_sub HLE.out]; rw [Nat.gcd_comm]; exact HGU5.out⟩
           case measure =>
            rw [own_val HT8.out.at_.1, own_val HT8.out.at_.2.1, own_val HT2.out.at_.1, own_val HT2.out.at_.2.1]
            have := HLE.out
            omega

          ·have hcn : decide (cmpN u' v' < 0) = false := by unfold cmpN; rw [if_neg hlt]; split <;> decide
           have HLE := Lib.hid (Nat.le_of_not_lt hlt)
           obtain ⟨cm, hcm⟩ : ∃ cm, cmpN u' v' = cm := ⟨_, rfl⟩
           rw [hcm] at hcn ⊢
           clear hlt hcm
           go_wp2_with fail
           (with_reducible refine (r_take_o _ w.heap.size ga3 na3 ca3 (digs u') ?_ ?_ (some ⟨gb5, 0, none⟩) nb5 cb5 (digs v') ?_ ?_ ?_ ?_).mono ?_); (exact HT6.out.at_.1); (omega); (exact HT6.out.at_.2.1.toWd); (intro ad e; injection e with e; subst e; exact Ne.symm HT6.out.at_.2.2.1); (rw [HT6.out.at_.1.len, HT6.out.at_.2.1.len]; exact digs_len_mono HLE.out); (rw [val_digs, val_digs]; exact HLE.out); rintro e w7 ⟨L, rfl, o7, hv7, hon7⟩
           rw [val_digs, val_digs] at hv7
           have HV7 := Lib.hid hv7
           have HO7 := Lib.hid o7
           have HON7 := Lib.hid hon7
           clear hv7 o7 hon7
           go_wp2_with fail
           (with_reducible refine (r_cut_o _ w.heap.size ga3 na3 ca3 L ?_ ?_).mono ?_); (exact HO7.out); (omega); rintro e w8 ⟨k8, rfl, o8, rfl⟩
           rw [HV7.out] at o8
           have HT8 := Lib.hid (HT6.out.left o8 HON7.out (Nat.sub_le _ _))
           clear o8
           go_wp2_with fail
           go_roundw
           case rel => exact ⟨u' - v', v', HT8.out, hv', by rw [gcd_sub HLE.out]; exact HGU5.out⟩
           case measure =>
            rw [own_val HT8.out.at_.1, own_val HT8.out.at_.2.1, own_val HT2.out.at_.1, own_val HT2.out.at_.2.1]
            have := HLE.out
            omega


   ·have ea := even_u32 hp1 h1
    have eb := odd_u32 hq1 h2
    clear h2
    clear hpe h1
    go_wp2_with fail
    clear ea
    try clear eb
    have e5 : 0 < nb := hnb
    clear hca hcb hp1 hq1 hna hnb hnaN hnbN
    go_loopw [0, 1] (fun va vb wr => ∃ (u v : Nat), Two w wr N va vb u v ∧ 0 < v ∧ Nat.gcd u v = G) (fun va vb wr => valOf wr va + valOf wr vb)
    case atStart => exact ⟨x, y, HT.out, hy, HG.out.1⟩
    case round =>
     rename_i wr2
     obtain ⟨u, v, hT2, hv, hgu⟩ := hrel
     obtain ⟨ga2, na2, ca2, gb2, nb2, cb2, rfl, rfl⟩ := hT2.form
     have HT2 := Lib.hid hT2
     have HGU := Lib.hid hgu
     clear hT2 hgu
     by_cases hu : u = 0
     ·subst hu
      have e0 : na2 = 0 := by rw [HT2.out.at_.1.len, digs_zero]; rfl
      subst e0
      have HVG := Lib.hid (show v = G by have := HGU.out; simpa using this)
      go_wp2_with fail
      go_loopw [1, 65] (fun vb iv wr => ∃ (j : Nat) (B : Option Addr) (m cc : Nat), vb = .slice B m cc ∧ Wd wr B m cc (digs (2 ^ j * G)) ∧ m ≤ N ∧ iv = .int .i64 (j : Nat) ∧ j ≤ t ∧ Below w.heap.size w wr) (fun _ iv _ => t - (intOf iv).toNat)
      case atStart =>
       have := HVG.out
       subst this
       exact ⟨0, _, _, _, rfl, by simpa using HT2.out.at_.2.1.toWd, own_len HT2.out.at_.2.1 HT2.out.at_.2.2.2.2.2, rfl, Nat.zero_le _, HT2.out.at_.2.2.2.1⟩
      case round =>
       obtain ⟨j, B, m, cc, rfl, hw, hm, rfl, hj, hbl⟩ := hrel
       have HW := Lib.hid hw
       have HB := Lib.hid hbl
       clear hw hbl
       by_cases hlt : j < t
       ·go_wp2_with fail
        (with_reducible refine (r_plus_c _ B m cc (digs (2 ^ j * G)) ?_ ?_ B m cc (digs (2 ^ j * G)) ?_ ?_).mono ?_); (exact HW.out); (omega); (exact HW.out); (omega); rintro e w4 ⟨B', m', cc', rfl, h4, hb4⟩
        have hz : val (digs (2 ^ j * G)) + val (digs (2 ^ j * G)) = 2 ^ (j + 1) * G := by rw [val_digs, Nat.pow_succ]; grind
        rw [hz] at h4
        have HZ := Lib.hid hz
        have H4 := Lib.hid h4
        clear hz h4
        go_wp2_with fail
        go_roundw
        case rel =>
         refine ⟨j + 1, B', m', cc', rfl, H4.out, ?_, by go_num, by omega, HB.out.trans (hb4.mono HB.out.size)⟩
         rw [H4.out.2.1]
         refine length_digs_le (Nat.lt_of_le_of_lt ?_ HVX.out)
         rw [HE.out.1]
         refine Nat.le_trans (Nat.mul_le_mul_right G (Nat.pow_le_pow_right (by omega) (show j + 1 ≤ t by omega))) (Nat.mul_le_mul_left _ ?_)
         rw [← HG.out.1]; exact Nat.gcd_le_left _ hx
        case measure => simp [intOf]; omega
       ·have hjt : j = t := by omega
        subst hjt
        go_wp2
        go_ret
        refine ⟨B, m, cc, rfl, ?_, HB.out⟩
        rw [HE.out.1, HE.out.2, Nat.gcd_mul_left, HG.out.1]
        exact HW.out
     ·have hup : 0 < u := by omega
      have hnap := own_pos HT2.out.at_.1 hup
      go_wp2_with fail
      go_loopw [0] (fun va wr => ∃ (u' : Nat), Two w wr N va (.slice (some ⟨gb2, 0, none⟩) nb2 cb2) u' v ∧ 0 < u' ∧ Nat.gcd u' v = G ∧ u' ≤ u) (fun va wr => valOf wr va)
      case atStart => exact ⟨u, HT2.out, hup, HGU.out, Nat.le_refl _⟩
      case round =>
       rename_i wr3
       obtain ⟨u', hT3, hu', hgu3, hle3⟩ := hrel
       obtain ⟨ga3, na3, ca3, _, _, _, rfl, _⟩ := hT3.form
       have HT3 := Lib.hid hT3
       have HGU3 := Lib.hid hgu3
       have hc3 := own_head hT3.at_.1 hu'
       have hn3 := own_pos hT3.at_.1 hu'
       have hn3N := own_len hT3.at_.1 hT3.at_.2.2.2.2.1
       obtain ⟨p3, hp3⟩ : ∃ p, u' % 4294967296 = p := ⟨_, rfl⟩
       rw [hp3] at hc3
       have hp31 : p3 < 4294967296 := by omega
       have hpu : u' % 2 = p3 % 2 := by omega
       clear hT3 hgu3 hp3
       by_cases hpe3 : p3 % 2 = 0
       ·have ea3 := even_u32 hp31 hpe3
        have HU2 := Lib.hid (show u' % 2 = 0 by omega)
        clear hpe3 hpu
        go_wp2_with fail
        (with_reducible refine (r_halve_o _ w.heap.size ga3 na3 ca3 (digs u') ?_ ?_).mono ?_); (exact HT3.out.at_.1); (omega); rintro e w4 ⟨k4, rfl, o4, hon4⟩
        have HT4 := Lib.hid (HT3.out.left o4.of_digs hon4 (Nat.div_le_self _ _))
        clear o4 hon4 hc3
        go_wp2_with fail
        go_roundw
        case rel =>
         have := HU2.out
         exact ⟨u' / 2, HT4.out, by omega, gcd_half HGU3.out HG.out.2 this, by omega⟩
        case measure =>
         rw [own_val HT4.out.at_.1, own_val HT3.out.at_.1]
         have := HU2.out
         omega
       ·have ea3 := odd_u32 hp31 (show p3 % 2 = 1 by omega)
        clear hpe3 hpu
        go_wp2_with fail
        clear ea3 hc3
        go_loopw [1] (fun vb wr => ∃ (v' : Nat), Two w wr N (.slice (some ⟨ga3, 0, none⟩) na3 ca3) vb u' v' ∧ 0 < v' ∧ Nat.gcd u' v' = G ∧ v' ≤ v) (fun vb wr => valOf wr vb)
        case atStart => exact ⟨v, HT3.out, hv, HGU3.out, Nat.le_refl _⟩
        case round =>
         rename_i wr5
         obtain ⟨v', hT5, hv', hgu5, hle5⟩ := hrel
         obtain ⟨_, _, _, gb5, nb5, cb5, _, rfl⟩ := hT5.form
         have HT5 := Lib.hid hT5
         have HGU5 := Lib.hid hgu5
         have hc5 := own_head hT5.at_.2.1 hv'
         have hn5 := own_pos hT5.at_.2.1 hv'
         have hn5N := own_len hT5.at_.2.1 hT5.at_.2.2.2.2.2
         obtain ⟨p5, hp5⟩ : ∃ p, v' % 4294967296 = p := ⟨_, rfl⟩
         rw [hp5] at hc5
         have hp51 : p5 < 4294967296 := by omega
         have hpv : v' % 2 = p5 % 2 := by omega
         clear hT5 hgu5 hp5
         by_cases hpe5 : p5 % 2 = 0
         ·have ea5 := even_u32 hp51 hpe5
          have HU2 := Lib.hid (show v' % 2 = 0 by omega)
          clear hpe5 hpv
          go_wp2_with fail
          (with_reducible refine (r_halve_o _ w.heap.size gb5 nb5 cb5 (digs v') ?_ ?_).mono ?_); (exact HT5.out.at_.2.1); (omega); rintro e w6 ⟨k6, rfl, o6, hon6⟩
          have HT6 := Lib.hid (HT5.out.swap.left o6.of_digs hon6 (Nat.div_le_self _ _)).swap
          clear o6 hon6 hc5
          go_wp2_with fail
          go_roundw
          case rel =>
           have := HU2.out
           exact ⟨v' / 2, HT6.out, by omega, by rw [Nat.gcd_comm]; exact gcd_half (by rw [Nat.gcd_comm]; exact HGU5.out) HG.out.2 this, by omega⟩
          case measure =>
           rw [own_val HT6.out.at_.2.1, own_val HT5.out.at_.2.1]
           have := HU2.out
           omega
         ·have ea5 := odd_u32 hp51 (show p5 % 2 = 1 by omega)
          clear hpe5 hpv
          go_wp2_with fail
          clear ea5 hc5
          (with_reducible refine (r_compare_c _ (some ⟨ga3, 0, none⟩) na3 ca3 (digs u') ?_ ?_ (some ⟨gb5, 0, none⟩) nb5 cb5 (digs v') ?_ ?_).mono ?_); (exact HT5.out.at_.1.toWd); (omega); (exact HT5.out.at_.2.1.toWd); (omega); rintro e w6 ⟨rfl, hb6⟩
          have HT6 := Lib.hid (HT5.out.belw hb6)
          clear hb6
          rw [val_digs, val_digs]
          by_cases hlt : u' < v'
          ·rw [show cmpN u' v' = -1 by unfold cmpN; rw [if_pos hlt]]
           have HLE := Lib.hid (Nat.le_of_lt hlt)
           clear hlt
           go_wp2_with fail
           (with_reducible refine (r_take_o _ w.heap.size gb5 nb5 cb5 (digs v') ?_ ?_ (some ⟨ga3, 0, none⟩) na3 ca3 (digs u') ?_ ?_ ?_ ?_).mono ?_); (exact HT6.out.at_.2.1); (omega); (exact HT6.out.at_.1.toWd); (intro ad e; injection e with e; subst e; exact HT6.out.at_.2.2.1); (rw [HT6.out.at_.2.1.len, HT6.out.at_.1.len]; exact digs_len_mono HLE.out); (rw [val_digs, val_digs]; exact HLE.out); rintro e w7 ⟨L, rfl, o7, hv7, hon7⟩
           rw [val_digs, val_digs] at hv7
           have HV7 := Lib.hid hv7
           have HO7 := Lib.hid o7
           have HON7 := Lib.hid hon7
           clear hv7 o7 hon7
           go_wp2_with fail
           (with_reducible refine (r_cut_o _ w.heap.size gb5 nb5 cb5 L ?_ ?_).mono ?_); (exact HO7.out); (omega); rintro e w8 ⟨k8, rfl, o8, rfl⟩
           rw [HV7.out] at o8
           have HT8 := Lib.hid (HT6.out.swap.left o8 HON7.out (Nat.sub_le _ _))
           clear o8
           go_wp2_with fail
           go_roundw
           case rel => exact ⟨v' - u', u', HT8.out, hu', by rw [gcd_sub HLE.out]; rw [Nat.gcd_comm]; exact HGU5.out⟩
           case measure =>
            rw [own_val HT8.out.at_.1, own_val HT8.out.at_.2.1, own_val HT2.out.at_.1, own_val HT2.out.at_.2.1]
            have := HLE.out
            omega

          ·have hcn : decide (cmpN u' v' < 0) = false := by unfold cmpN; rw [if_neg hlt]; split <;> decide
           have HLE := Lib.hid (Nat.le_of_not_lt hlt)
           obtain ⟨cm, hcm⟩ : ∃ cm, cmpN u' v' = cm := ⟨_, rfl⟩
           rw [hcm] at hcn ⊢
           clear hlt hcm
           go_wp2_with fail
           (with_reducible refine (r_take_o _ w.heap.size ga3 na3 ca3 (digs u') ?_ ?_ (some ⟨gb5, 0, none⟩) nb5 cb5 (digs v') ?_ ?_ ?_ ?_).mono ?_); (exact HT6.out.at_.1); (omega); (exact HT6.out.at_.2.1.toWd); (intro ad e; injection e with e; subst e; exact Ne.symm HT6.out.at_.2.2.1); (rw [HT6.out.at_.1.len, HT6.out.at_.2.1.len]; exact digs_len_mono HLE.out); (rw [val_digs, val_digs]; exact HLE.out); rintro e w7 ⟨L, rfl, o7, hv7, hon7⟩
           rw [val_digs, val_digs] at hv7
           have HV7 := Lib.hid hv7
           have HO7 := Lib.hid o7
           have HON7 := Lib.hid hon7
           clear hv7 o7 hon7
           go_wp2_with fail
           (with_reducible refine (r_cut_o _ w.heap.size ga3 na3 ca3 L ?_ ?_).mono ?_); (exact HO7.out); (omega); rintro e w8 ⟨k8, rfl, o8, rfl⟩
           rw [HV7.out] at o8
           have HT8 := Lib.hid (HT6.out.left o8 HON7.out (Nat.sub_le _ _))
           clear o8
           go_wp2_with fail
           go_roundw
           case rel => exact ⟨u' - v', v', HT8.out, hv', by rw [gcd_sub HLE.out]; exact HGU5.out⟩
           case measure =>
            rw [own_val HT8.out.at_.1, own_val HT8.out.at_.2.1, own_val HT2.out.at_.1, own_val HT2.out.at_.2.1]
            have := HLE.out
            omega


end Go.Proofs.YtjanfdkbficmbaaGreatDoor

/- Walks: the reference's greatest common divisor, of any lists. -/
namespace Go.Proofs.YtjanfdkbficmbaaGreatDoor
open Go Go.RowKit Bn
theorem r_gcd_z (w : World) (A : Option Addr) (n c : Nat) (l : List Nat) (wa : Wd w A n c l) (hn : n ≤ 1099511627000) (A' : Option Addr) (n' c' : Nat) (l' : List Nat) (wb : Wd w A' n' c' l') (hn' : n' ≤ 1099511627000) (h0 : val l = 0 ∨ val l' = 0) :
  Calls Tryz.prog 98 #[.slice A n c, .slice A' n' c'] w (RetL w (digs (Nat.gcd (val l) (val l')))) := by
 have H0 := Lib.hid h0
 clear h0
 go_enter Tryz.func98, Tryz.ntmps98
 go_wp2_with fail
 (with_reducible refine (r_trim_o _ A n c l ?_ ?_).mono ?_); (exact wa); (omega); rintro e w1 ⟨ga, na, ca, rfl, h1, hb1⟩
 go_wp2_with fail
 (with_reducible refine (r_trim_o _ A' n' c' l' ?_ ?_).mono ?_); (exact wb.belw hb1); (omega); rintro e w2 ⟨gb, nb, cb, rfl, h2, hb2⟩
 have HB := Lib.hid (hb1.trans (hb2.mono hb1.size))
 have H1 := Lib.hid (h1.belw hb2)
 have H2 := Lib.hid h2
 have hna := h1.len
 have hnb := h2.len
 clear h1 h2 hb1 hb2
 by_cases hz : val l = 0
 ·have e : na = 0 := by rw [hna, hz, digs_zero]; rfl
  have HG := Lib.hid (show digs (Nat.gcd (val l) (val l')) = digs (val l') by rw [hz, Nat.gcd_zero_left])
  subst e
  clear hna hnb hz
  go_wp2_with fail
  go_ret
  exact ⟨_, _, _, rfl, by rw [HG.out]; exact H2.out.toWd, HB.out⟩
 ·have hz2 : val l' = 0 := H0.out.resolve_left hz
  have e : nb = 0 := by rw [hnb, hz2, digs_zero]; rfl
  have hp : 0 < na := by
   rw [hna]; rcases Nat.eq_zero_or_pos (digs (val l)).length with h | h
   ·exact absurd (digs_eq_nil.1 (List.eq_nil_of_length_eq_zero h)) hz
   ·exact h
  have e1 : ((na : Int) == 0) = false := by simp; omega
  have HG := Lib.hid (show digs (Nat.gcd (val l) (val l')) = digs (val l) by rw [hz2, Nat.gcd_zero_right])
  subst e
  clear hna hnb hz hz2
  go_wp2_with fail
  go_ret
  exact ⟨_, _, _, rfl, by rw [HG.out]; exact H1.out.toWd, HB.out⟩
theorem r_gcd_any (w : World) (A : Option Addr) (n c : Nat) (l : List Nat) (wa : Wd w A n c l) (hn : n ≤ 1099511627000) (A' : Option Addr) (n' c' : Nat) (l' : List Nat) (wb : Wd w A' n' c' l') (hn' : n' ≤ 1099511627000) :
    Calls Tryz.prog 98 #[.slice A n c, .slice A' n' c'] w (RetL w (digs (Nat.gcd (val l) (val l')))) := by
  by_cases h : val l = 0
  · exact r_gcd_z w A n c l wa hn A' n' c' l' wb hn' (.inl h)
  · by_cases h' : val l' = 0
    · exact r_gcd_z w A n c l wa hn A' n' c' l' wb hn' (.inr h')
    · exact r_gcd_c w 1099511627000 (Nat.le_refl _) A n c l wa hn A' n' c' l' wb hn' h h'
end Go.Proofs.YtjanfdkbficmbaaGreatDoor

/- Walks: the reference's Neg, Add, Of. -/
namespace Go.Proofs.YtjanfdkbficmbaaGreatDoor
open Go Go.RowKit Bn
attribute [local go_sem ↓] Go.wp_at_zero Go.wp_at_succ
theorem r_form_e (w : World) (b : Bool) (A : Option Addr) (n c : Nat) (l : List Nat) (z : Int) (h : Wd w A n c l) (hn : n ≤ 1099511627776) (hz : sgn b (val l) = z) :
    Calls Tryz.prog 50 #[.bool b, .slice A n c] w (RetW w (wh z)) := by subst hz; exact r_form_c w b A n c l h hn
theorem r_neg_C (w : World) (b : Bool) (A : Option Addr) (n c : Nat) (l : List Nat) (wa : Wd w A n c l) (hn : n ≤ 1099511627000) :
    Calls Tryz.prog 76 #[.agg #[.bool b, .slice A n c]] w (RetW w (wh (-WD.z ⟨b, l⟩))) := by
  have HL := Lib.hid wa.2.1
  go_enter Tryz.func76, Tryz.ntmps76
  go_wp2_with fail
  have b0 : Below w.heap.size w ((w.alloc (.cells #[.bool b, .slice A n c] 52)).alloc (.cells #[.bool false, .slice none 0 0] 52)) := (((Below.refl _ _).alloc (Nat.le_refl _) _).alloc (by simp) _)
  generalize hW0 : ((w.alloc (.cells #[.bool b, .slice A n c] 52)).alloc (.cells #[.bool false, .slice none 0 0] 52)) = W0 at b0 ⊢
  have c00 : W0.cell? ⟨w.heap.size, 0, none⟩ = some (.bool b) := by subst hW0; simp [go_sem]
  have f00 : W0.frozen? ⟨w.heap.size, 0, none⟩ = false := by subst hW0; simp [go_sem]
  have c01 : W0.cell? ⟨w.heap.size, 1, none⟩ = some (.slice A n c) := by subst hW0; simp [go_sem]
  have f01 : W0.frozen? ⟨w.heap.size, 1, none⟩ = false := by subst hW0; simp [go_sem]
  have c10 : W0.cell? ⟨w.heap.size + 1, 0, none⟩ = some (.bool false) := by subst hW0; simp [go_sem]
  have f10 : W0.frozen? ⟨w.heap.size + 1, 0, none⟩ = false := by subst hW0; simp [go_sem]
  have c11 : W0.cell? ⟨w.heap.size + 1, 1, none⟩ = some (.slice none 0 0) := by subst hW0; simp [go_sem]
  have f11 : W0.frozen? ⟨w.heap.size + 1, 1, none⟩ = false := by subst hW0; simp [go_sem]
  have x0 : Box W0 w.heap.size 52 := by subst hW0; exact (boxAt _ _ _ (by simp)).alloc _
  have x1 : Box W0 (w.heap.size + 1) 52 := by subst hW0; exact boxAt _ _ _ (by simp)
  have hm0 : Made (w.heap.size + 1) (w.heap.size + 1 + 1) 2 W0 := by subst hW0; exact made1 (by simp)
  have hs0 : w.heap.size + 1 + 1 ≤ W0.heap.size := by subst hW0; simp
  clear hW0
  have wa := wa.belw b0
  have r0 : Below W0.heap.size W0 W0 := brefl _
  have hRB : w.heap.size + 1 ≤ w.heap.size + 1 + 1 := by omega
  go_region_held3 (fun w' => Sees (w.heap.size + 1) W0 w') (first | exact Sees.of (Nat.le_trans hRB hs0) (by assumption) | exact Sees.of (Nat.le_trans hRB hs0) (below_drewN (by assumption) _) | exact (Sees.set (Sees.of (Nat.le_trans hRB hs0) (by assumption)) (by simp)) | exact (Sees.set (Sees.set (Sees.of (Nat.le_trans hRB hs0) (by assumption)) (by simp)) (by simp)))
    (first
      | (go_at_call 75; (with_reducible refine (r_neg_c _ b A n c l ?_ ?_).mono ?_); (exact wa); (omega); rintro e w1 ⟨rfl, hb1⟩; replace hb1 := bnext (below_drewN (brefl _) 1) hb1; have r1 := bnext r0 hb1; replace wa := wa.belw hb1)
      | (go_at_call 74; (with_reducible refine (r_mag_c _ b A n c l ?_ ?_).mono ?_); (exact wa); (omega); rintro e w2 ⟨A1, n1, c1, rfl, h1, hb2⟩; have r2 := bnext r1 hb2; replace wa := wa.belw hb2)
      | (go_at_call 50; (with_reducible refine (r_form_e _ (!WD.s ⟨b, l⟩) A1 n1 c1 (WD.m ⟨b, l⟩) (-WD.z ⟨b, l⟩) ?_ ?_ ?_).mono ?_); (exact h1); (exact Nat.le_trans (h1.m_len (by rw [← HL.out]; exact hn)) (by decide)); (exact (z_neg _).symm); rintro e w3 ⟨A2, n2, c2, rfl, h2, hb3⟩; have r3 := bnext r2 hb3; replace wa := wa.belw hb3; replace h1 := h1.belw hb3; obtain ⟨⟨sc, sf⟩, sr, sz⟩ := Seen.of (by omega) hs0 hm0 r3))
  clear hRB
  go_wp2_with fail
  refine bodyPost_ret (v := .agg #[.bool _, .slice A2 n2 c2]) (by simp [results, Tryz.results76, go_sem, sr]; rfl) rfl ?_
  have x := x1.below r3
  refine retW ?_ ?_ ?_
  · rfl
  · exact h2.keep (kp2 x (by decide) _ _ _ _)
  · exact ((b0.trans (r3.mono b0.size)).setCell (by dsimp only; omega) _).setCell (by dsimp only; omega) _
theorem r_of_c (w : World) (i : Int) (h0 : -9223372036854775808 ≤ i) (h1 : i < 9223372036854775808) :
  Calls Tryz.prog 22 #[.int .i64 i] w (RetW w (wh i)) := by
 obtain ⟨v, hv⟩ : ∃ v : Nat, v = i.natAbs := ⟨_, rfl⟩
 have hv2 : v < 18446744073709551616 := by omega
 have hval : val [v % 4294967296, v / 4294967296] = v := by simp [val]; omega
 have HV := Lib.hid hval
 by_cases hneg : i < 0
 ·have e1 : IntKind.u64.wrap i = i + 18446744073709551616 := by unfold IntKind.wrap; simp [IntKind.bits, IntKind.signed]; omega
  have e2 : IntKind.u64.wrap (-(i + 18446744073709551616)) = (v : Int) := by unfold IntKind.wrap; simp [IntKind.bits, IntKind.signed]; omega
  have e3 : decide (i < 0) = true := by simp; omega
  have e4 : IntKind.u32.wrap (v : Int) = ((v % 4294967296 : Nat) : Int) := by unfold IntKind.wrap; simp [IntKind.bits, IntKind.signed]
  have e5 : IntKind.u32.wrap ((v : Int) / 4294967296) = ((v / 4294967296 : Nat) : Int) := by unfold IntKind.wrap; simp [IntKind.bits, IntKind.signed]; omega
  have HZ := Lib.hid (show sgn true v = i by simp [sgn]; omega)
  have HV2 := Lib.hid hv2
  clear hv hval hv2 hneg h0 h1
  go_enter Tryz.func22, Tryz.ntmps22
  go_wp2_with (go_at_call 50; (with_reducible refine (r_form_e _ true (some ⟨w.heap.size + 1, 0, none⟩) 2 2 [v % 4294967296, v / 4294967296] i ?_ ?_ ?_).mono ?_); (exact two_word (w.alloc _) _ (by simp) _ _ v (by simp) (by simp) HV2.out); (omega); (rw [HV.out]; exact HZ.out); rintro e w1 ⟨A1, n1, c1, rfl, h1, hb⟩; obtain ⟨hc, hf⟩ := bcell hb)
  have hc0 : w1.cell? ⟨w.heap.size, 0, none⟩ = some (.bool false) := (hc w.heap.size 0 (by simp; omega)).trans (by simp [go_sem])
  have hc1 : w1.cell? ⟨w.heap.size, 1, none⟩ = some (.slice none 0 0) := (hc w.heap.size 1 (by simp; omega)).trans (by simp [go_sem])
  refine bodyPost_ret (v := .agg #[.bool _, .slice A1 n1 c1]) (by simp [results, Tryz.results22, go_sem, hc0, hc1]; rfl) rfl ?_
  have x := ((boxAt w #[.bool false, .slice none 0 0] 52 rfl).alloc _).below hb
  refine retW ?_ ?_ ?_
  ·rfl
  ·exact h1.keep (kp2 x (by decide) _ _ _ _)
  ·exact ((((((Below.refl _ _).alloc (Nat.le_refl _) _).alloc (by simp) _).trans (hb.mono (by simp; omega)))).setCell (by dsimp only; omega) _).setCell (by dsimp only; omega) _
 ·have e1 : IntKind.u64.wrap i = (v : Int) := by unfold IntKind.wrap; simp [IntKind.bits, IntKind.signed]; omega
  have e3 : decide (i < 0) = false := by simp; omega
  have e4 : IntKind.u32.wrap (v : Int) = ((v % 4294967296 : Nat) : Int) := by unfold IntKind.wrap; simp [IntKind.bits, IntKind.signed]
  have e5 : IntKind.u32.wrap ((v : Int) / 4294967296) = ((v / 4294967296 : Nat) : Int) := by unfold IntKind.wrap; simp [IntKind.bits, IntKind.signed]; omega
  have HZ := Lib.hid (show sgn false v = i by simp [sgn]; omega)
  have HV2 := Lib.hid hv2
  clear hv hval hv2 hneg h0 h1
  go_enter Tryz.func22, Tryz.ntmps22
  go_wp2_with (go_at_call 50; (with_reducible refine (r_form_e _ false (some ⟨w.heap.size + 1, 0, none⟩) 2 2 [v % 4294967296, v / 4294967296] i ?_ ?_ ?_).mono ?_); (exact two_word (w.alloc _) _ (by simp) _ _ v (by simp) (by simp) HV2.out); (omega); (rw [HV.out]; exact HZ.out); rintro e w1 ⟨A1, n1, c1, rfl, h1, hb⟩; obtain ⟨hc, hf⟩ := bcell hb)
  have hc0 : w1.cell? ⟨w.heap.size, 0, none⟩ = some (.bool false) := (hc w.heap.size 0 (by simp; omega)).trans (by simp [go_sem])
  have hc1 : w1.cell? ⟨w.heap.size, 1, none⟩ = some (.slice none 0 0) := (hc w.heap.size 1 (by simp; omega)).trans (by simp [go_sem])
  refine bodyPost_ret (v := .agg #[.bool _, .slice A1 n1 c1]) (by simp [results, Tryz.results22, go_sem, hc0, hc1]; rfl) rfl ?_
  have x := ((boxAt w #[.bool false, .slice none 0 0] 52 rfl).alloc _).below hb
  refine retW ?_ ?_ ?_
  ·rfl
  ·exact h1.keep (kp2 x (by decide) _ _ _ _)
  ·exact ((((((Below.refl _ _).alloc (Nat.le_refl _) _).alloc (by simp) _).trans (hb.mono (by simp; omega)))).setCell (by dsimp only; omega) _).setCell (by dsimp only; omega) _
end Go.Proofs.YtjanfdkbficmbaaGreatDoor

/- Walks: the reference's Gcd. -/
namespace Go.Proofs.YtjanfdkbficmbaaGreatDoor
open Go Go.RowKit Bn
attribute [local go_sem ↓] Go.wp_at_zero Go.wp_at_succ
theorem gcd_len {w w' : World} {A : Option Addr} {n c : Nat} {l : List Nat} {A' : Option Addr} {n' c' : Nat} {l' : List Nat} {N : Nat} (h : Wd w A n c l) (h' : Wd w' A' n' c' l') (hn : n ≤ N) (hn' : n' ≤ N) : (digs (Nat.gcd (val l) (val l'))).length ≤ N := length_digs_le (gcd_lt (h.vlt hn) (h'.vlt hn'))
theorem r_Gcd_C (w : World) (b : Bool) (A : Option Addr) (n c : Nat) (l : List Nat) (wa : Wd w A n c l) (hn : n ≤ 1099511627000) (b' : Bool) (A' : Option Addr) (n' c' : Nat) (l' : List Nat) (wb : Wd w A' n' c' l') (hn' : n' ≤ 1099511627000) :
    Calls Tryz.prog 77 #[.agg #[.bool b, .slice A n c], .agg #[.bool b', .slice A' n' c']] w (RetW w (wh (Nat.gcd (WD.z ⟨b, l⟩).natAbs (WD.z ⟨b', l'⟩).natAbs : Nat))) := by
  have HL := Lib.hid wa.2.1
  have HL' := Lib.hid wb.2.1
  rw [z_nat, z_nat]
  go_enter Tryz.func77, Tryz.ntmps77
  go_wp2_with fail
  have b0 : Below w.heap.size w (((w.alloc (.cells #[.bool b, .slice A n c] 52)).alloc (.cells #[.bool b', .slice A' n' c'] 52)).alloc (.cells #[.bool false, .slice none 0 0] 52)) := ((((Below.refl _ _).alloc (Nat.le_refl _) _).alloc (by simp) _).alloc (by simp; omega) _)
  generalize hW0 : (((w.alloc (.cells #[.bool b, .slice A n c] 52)).alloc (.cells #[.bool b', .slice A' n' c'] 52)).alloc (.cells #[.bool false, .slice none 0 0] 52)) = W0 at b0 ⊢
  have c00 : W0.cell? ⟨w.heap.size, 0, none⟩ = some (.bool b) := by subst hW0; simp [go_sem]
  have f00 : W0.frozen? ⟨w.heap.size, 0, none⟩ = false := by subst hW0; simp [go_sem]
  have c01 : W0.cell? ⟨w.heap.size, 1, none⟩ = some (.slice A n c) := by subst hW0; simp [go_sem]
  have f01 : W0.frozen? ⟨w.heap.size, 1, none⟩ = false := by subst hW0; simp [go_sem]
  have c10 : W0.cell? ⟨w.heap.size + 1, 0, none⟩ = some (.bool b') := by subst hW0; simp [go_sem]
  have f10 : W0.frozen? ⟨w.heap.size + 1, 0, none⟩ = false := by subst hW0; simp [go_sem]
  have c11 : W0.cell? ⟨w.heap.size + 1, 1, none⟩ = some (.slice A' n' c') := by subst hW0; simp [go_sem]
  have f11 : W0.frozen? ⟨w.heap.size + 1, 1, none⟩ = false := by subst hW0; simp [go_sem]
  have c20 : W0.cell? ⟨w.heap.size + 1 + 1, 0, none⟩ = some (.bool false) := by subst hW0; simp [go_sem]
  have f20 : W0.frozen? ⟨w.heap.size + 1 + 1, 0, none⟩ = false := by subst hW0; simp [go_sem]
  have c21 : W0.cell? ⟨w.heap.size + 1 + 1, 1, none⟩ = some (.slice none 0 0) := by subst hW0; simp [go_sem]
  have f21 : W0.frozen? ⟨w.heap.size + 1 + 1, 1, none⟩ = false := by subst hW0; simp [go_sem]
  have x0 : Box W0 w.heap.size 52 := by subst hW0; exact ((boxAt _ _ _ (by simp)).alloc _).alloc _
  have x1 : Box W0 (w.heap.size + 1) 52 := by subst hW0; exact (boxAt _ _ _ (by simp)).alloc _
  have x2 : Box W0 (w.heap.size + 1 + 1) 52 := by subst hW0; exact boxAt _ _ _ (by simp)
  have hm0 : Made (w.heap.size + 1 + 1) (w.heap.size + 1 + 1 + 1) 2 W0 := by subst hW0; exact made1 (by simp)
  have hs0 : w.heap.size + 1 + 1 + 1 ≤ W0.heap.size := by subst hW0; simp
  clear hW0
  have wa := wa.belw b0
  have wb := wb.belw b0
  have r0 : Below W0.heap.size W0 W0 := brefl _
  have hRB : w.heap.size + 1 + 1 ≤ w.heap.size + 1 + 1 + 1 := by omega
  go_region_held3 (fun w' => Sees (w.heap.size + 1 + 1) W0 w') (first | exact Sees.of (Nat.le_trans hRB hs0) (by assumption) | exact Sees.of (Nat.le_trans hRB hs0) (below_drewN (by assumption) _) | exact (Sees.set (Sees.of (Nat.le_trans hRB hs0) (by assumption)) (by simp)) | exact (Sees.set (Sees.set (Sees.of (Nat.le_trans hRB hs0) (by assumption)) (by simp)) (by simp)))
    (first
      | (go_at_call 74; (with_reducible refine (r_mag_c _ b A n c l ?_ ?_).mono ?_); (exact wa); (omega); rintro e w1 ⟨A1, n1, c1, rfl, h1, hb1⟩; replace hb1 := bnext (below_drewN (brefl _) 1) hb1; have r1 := bnext r0 hb1; replace wa := wa.belw hb1; replace wb := wb.belw hb1)
      | (go_at_call 74; (with_reducible refine (r_mag_c _ b' A' n' c' l' ?_ ?_).mono ?_); (exact wb); (omega); rintro e w2 ⟨A2, n2, c2, rfl, h2, hb2⟩; have r2 := bnext r1 hb2; replace wa := wa.belw hb2; replace wb := wb.belw hb2; replace h1 := h1.belw hb2)
      | (go_at_call 98; (with_reducible refine (r_gcd_any _ A1 n1 c1 (WD.m ⟨b, l⟩) ?_ ?_ A2 n2 c2 (WD.m ⟨b', l'⟩) ?_ ?_).mono ?_); (exact h1); (exact h1.m_len (by rw [← HL.out]; exact hn)); (exact h2); (exact h2.m_len (by rw [← HL'.out]; exact hn')); rintro e w3 ⟨A3, n3, c3, rfl, h3, hb3⟩; have r3 := bnext r2 hb3; replace wa := wa.belw hb3; replace wb := wb.belw hb3; replace h1 := h1.belw hb3; replace h2 := h2.belw hb3)
      | (go_at_call 50; (with_reducible refine (r_form_e _ false A3 n3 c3 (digs (Nat.gcd (val (WD.m ⟨b, l⟩)) (val (WD.m ⟨b', l'⟩)))) (Nat.gcd (val (WD.m ⟨b, l⟩)) (val (WD.m ⟨b', l'⟩)) : Nat) ?_ ?_ ?_).mono ?_); (exact h3); (rw [h3.2.1]; exact gcd_len h1 h2 (Nat.le_trans (h1.m_len (by rw [← HL.out]; exact hn)) (by decide)) (Nat.le_trans (h2.m_len (by rw [← HL'.out]; exact hn')) (by decide))); (rw [val_digs]; rfl); rintro e w4 ⟨A4, n4, c4, rfl, h4, hb4⟩; have r4 := bnext r3 hb4; replace wa := wa.belw hb4; replace wb := wb.belw hb4; replace h1 := h1.belw hb4; replace h2 := h2.belw hb4; replace h3 := h3.belw hb4; obtain ⟨⟨sc, sf⟩, sr, sz⟩ := Seen.of (by omega) hs0 hm0 r4))
  clear hRB
  go_wp2_with fail
  refine bodyPost_ret (v := .agg #[.bool _, .slice A4 n4 c4]) (by simp [results, Tryz.results77, go_sem, sr]; rfl) rfl ?_
  have x := x2.below r4
  refine retW ?_ ?_ ?_
  · rfl
  · exact h4.keep (kp2 x (by decide) _ _ _ _)
  · exact ((b0.trans (r4.mono b0.size)).setCell (by dsimp only; omega) _).setCell (by dsimp only; omega) _
theorem r01_gcd (w : World) (b : Bool) (A : Option Addr) (n c : Nat) (z : Int) (k : Nat) (h : IZ w b A n c z k) (b' : Bool) (A' : Option Addr) (n' c' : Nat) (z' : Int) (k' : Nat) (h' : IZ w b' A' n' c' z' k') (hk : k + k' ≤ 1000000000) : Calls Tryz.prog 77 #[.agg #[.bool b, .slice A n c], .agg #[.bool b', .slice A' n' c']] w (RetI w (Nat.gcd z.natAbs z'.natAbs : Nat) (k + k')) := by
  have hz := h.mono (Nat.le_add_right k k') |>.lt
  have hz' := h'.mono (Nat.le_add_left k' k) |>.lt
  obtain ⟨l, h1, rfl, h3⟩ := h
  obtain ⟨l', h1', rfl, h3'⟩ := h'
  exact (r_Gcd_C w b A n c l h1 (by omega) b' A' n' c' l' h1' (by omega)).mono fun _ _ r => r.i (by simpa using gcd_lt hz hz')
end Go.Proofs.YtjanfdkbficmbaaGreatDoor

/- Walks: the reference's number of bits. -/
namespace Go.Proofs.YtjanfdkbficmbaaGreatDoor
open Go Go.RowKit Bn

theorem val_last {l : List Nat} (h : Wds l) (h0 : 0 < l.length) {t : Nat} (ht : wd l (l.length - 1) < 2 ^ t) : val l < 2 ^ (32 * (l.length - 1) + t) := by
  have e := Sm_ge l (Nat.le_refl _)
  obtain ⟨m, hm⟩ : ∃ m, l.length = m + 1 := ⟨l.length - 1, by omega⟩
  rw [hm] at e ht ⊢
  simp only [Nat.add_sub_cancel] at ht ⊢
  rw [Sm] at e
  have h1 : Sm (wd l) m < 4294967296 ^ m := Sm_lt (fun i _ => wd_lt h i)
  have h2 : (4294967296 : Nat) ^ m = 2 ^ (32 * m) := by rw [Nat.pow_mul]
  rw [h2] at h1 e
  rw [Nat.pow_add, ← e]
  have h3 : (wd l m + 1) * 2 ^ (32 * m) ≤ 2 ^ t * 2 ^ (32 * m) := Nat.mul_le_mul_right _ ht
  rw [Nat.add_mul] at h3
  rw [Nat.mul_comm (2 ^ (32 * m)) (2 ^ t)]
  omega
def RetB (w : World) (v n : Nat) (e : Ending) (w' : World) : Prop := ∃ N : Nat, e = .returned (.int .i64 (N : Nat)) ∧ v < 2 ^ N ∧ N ≤ 32 * n ∧ w = w'
theorem r_bits_c (w : World) (A : Option Addr) (n c : Nat) (l : List Nat) (wa : Wd w A n c l) (hn : n ≤ 1099511627776) :
  Calls Tryz.prog 121 #[.slice A n c] w (RetB w (val l) n) := by
 have HL := Lib.hid wa.2.1
 by_cases h0 : n = 0
 ·subst h0
  have HE := Lib.hid (show val l = 0 by rw [List.eq_nil_of_length_eq_zero HL.out.symm]; rfl)
  clear wa
  go_enter Tryz.func121, Tryz.ntmps121
  go_wp2
  go_ret
  exact ⟨0, rfl, by rw [HE.out]; decide, by omega, rfl⟩
 ·obtain ⟨g, o, rfl, hgl, hc⟩ := wa.at2 (by omega)
  have hck := hc (n - 1) (by omega)
  have hlt := wa.lt (n - 1)
  have hp : 0 < n := by omega
  have HW := Lib.hid wa.1
  obtain ⟨x0, hx0⟩ : ∃ x, wd l (n - 1) = x := ⟨_, rfl⟩
  rw [hx0] at hck hlt
  have HX := Lib.hid hx0
  clear hc h0 hx0 wa
  have hn0 : ((n : Int) == 0) = false := by simp; omega
  go_enter Tryz.func121, Tryz.ntmps121
  go_wp2_with fail
  go_loop [3, 4] (fun nv xv => ∃ (t x : Nat), t ≤ 32 ∧ nv = .int .i64 ((32 * (n - 1) + t : Nat) : Int) ∧ xv = .int .u32 (x : Nat) ∧ x < 4294967296 ∧ x = x0 / 2 ^ t) (fun _ xv => (intOf xv).toNat)
  case atStart => exact ⟨0, x0, by omega, by congr 1; omega, rfl, hlt, by simp⟩
  case round =>
   obtain ⟨t, x, ht, rfl, rfl, hx, he⟩ := hrel
   have HE := Lib.hid he
   clear he
   by_cases hz : x = 0
   ·subst hz
    go_wp2
    go_ret
    refine ⟨32 * (n - 1) + t, rfl, ?_, by omega, rfl⟩
    have h1 : x0 < 2 ^ t := by
     have := HE.out
     rcases Nat.lt_or_ge x0 (2 ^ t) with h | h
     ·exact h
     ·have := Nat.div_pos h (Nat.pow_pos (by omega)); omega
    have := val_last HW.out (by rw [← HL.out]; exact hp) (t := t) (by rw [← HL.out, HX.out]; exact h1)
    rwa [← HL.out] at this
   ·have ht2 : t < 32 := by
     rcases Nat.lt_or_ge t 32 with h | h
     ·exact h
     ·exfalso
      have e : t = 32 := by omega
      have := HE.out
      rw [e] at this
      have : x = 0 := by rw [this]; exact Nat.div_eq_of_lt hlt
      omega
    have hxp : 0 < x := by omega
    go_wp2
    go_round
    case rel => exact ⟨t + 1, x / 2, by omega, by congr 1 <;> omega, by congr 1 <;> omega, by omega, by rw [HE.out, Nat.pow_succ, Nat.div_div_eq_div_mul]⟩
    case measure => simp [intOf]; omega
end Go.Proofs.YtjanfdkbficmbaaGreatDoor

/- Walks: integer.Root. -/
namespace Go.Proofs.YtjanfdkbficmbaaGreatDoor
open Go Go.RowKit Bn

def RetIe (w : World) (v : Value) (z : Int) (k : Nat) (e : Ending) (w' : World) : Prop := ∃ b A n c, e = .returned (.tuple #[.agg #[.bool b, .slice A n c], v]) ∧ IV w' b A n c z k ∧ Below w.heap.size w w'
end Go.Proofs.YtjanfdkbficmbaaGreatDoor

/- Walks: the reference's Sign, Sub, Cmp; its contracts as values. -/
namespace Go.Proofs.YtjanfdkbficmbaaGreatDoor
open Go Go.RowKit Bn
attribute [local go_sem ↓] Go.wp_at_zero Go.wp_at_succ
theorem r_sign_c (w : World) (b : Bool) (A : Option Addr) (n c : Nat) (l : List Nat) (wa : Wd w A n c l) (hn : n ≤ 1099511627000) :
  Calls Tryz.prog 48 #[.agg #[.bool b, .slice A n c]] w (RetV w (.int .i64 (WD.z ⟨b, l⟩).sign)) := by
 have hz := WD.z_eq ⟨b, l⟩
 have hcan : Canon (WD.m ⟨b, l⟩) := WD.canon_m wa.1
 by_cases hm : WD.m ⟨b, l⟩ = []
 ·have HE := Lib.hid (show (WD.z ⟨b, l⟩).sign = 0 by rw [hz, hm]; cases WD.s ⟨b, l⟩ <;> rfl)
  have HM := Lib.hid hm
  clear hz hm hcan
  go_enter Tryz.func48, Tryz.ntmps48
  go_wp2_with fail
  (with_reducible refine (r_mag_c _ b A n c l ?_ ?_).mono ?_); (exact wa.keep ((Kp.refl _).alloc _)); (omega); rintro e w1 ⟨A1, n1, c1, rfl, h1, hb⟩
  have hn1 : n1 = 0 := by rw [h1.2.1, HM.out]; rfl
  subst hn1
  go_wp2_with fail
  go_ret
  exact retI HE.out.symm (((Below.refl _ _).alloc (Nat.le_refl _) _).trans (hb.mono (by simp)))
 ·obtain ⟨s, hs⟩ : ∃ s, WD.s ⟨b, l⟩ = s := ⟨_, rfl⟩
  have hv : val (WD.m ⟨b, l⟩) ≠ 0 := fun e => hm ((val_eq_zero hcan).1 e)
  have HE := Lib.hid (show (WD.z ⟨b, l⟩).sign = if s then -1 else 1 by
   rw [hz, hs]
   cases s
   ·simp only [sgn]; exact Int.sign_eq_one_of_pos (by simp; omega)
   ·simp only [sgn]; exact Int.sign_eq_neg_one_of_neg (by simp; omega))
  have HM := Lib.hid hm
  have HS := Lib.hid hs
  clear hz hm hcan hs hv
  go_enter Tryz.func48, Tryz.ntmps48
  go_wp2_with fail
  (with_reducible refine (r_mag_c _ b A n c l ?_ ?_).mono ?_); (exact wa.keep ((Kp.refl _).alloc _)); (omega); rintro e w1 ⟨A1, n1, c1, rfl, h1, hb⟩
  have hn1 : n1 ≠ 0 := fun e => HM.out (List.eq_nil_of_length_eq_zero (by rw [← h1.2.1, e]))
  have e0 : ((n1 : Int) == 0) = false := by simp; omega
  have q : Below w.heap.size w w1 := ((Below.refl _ _).alloc (Nat.le_refl _) _).trans (hb.mono (by simp))
  have x : Blk w1 w.heap.size 52 #[.bool b, .slice A n c] := (blkAt w _ _ rfl).below hb (by simp)
  obtain ⟨cx0, cx1⟩ := x.c2
  clear hb hn1
  go_wp2_with fail
  (with_reducible refine (r_neg_c _ b A n c l ?_ ?_).mono ?_); (exact wa.belw q); (omega); rintro e w2 ⟨rfl, hb2⟩
  rw [HS.out]
  cases s
  all_goals
   go_wp2_with fail
   go_ret
   exact retI HE.out.symm (q.trans (hb2.mono q.size))
section
variable (w : World) (b : Bool) (A : Option Addr) (n c : Nat) (z : Int) (k : Nat) (h : IZ w b A n c z k) (b' : Bool) (A' : Option Addr) (n' c' : Nat) (z' : Int) (k' : Nat) (h' : IZ w b' A' n' c' z' k')
include h
theorem r01_neg (hk : k ≤ 1000000000) : Calls Tryz.prog 76 #[.agg #[.bool b, .slice A n c]] w (RetI w (-z) k) := by
  have hz := h.lt
  obtain ⟨l, h1, rfl, h3⟩ := h
  exact (r_neg_C w b A n c l h1 (by omega)).mono fun _ _ r => r.i (by omega)
theorem r01_sign (hk : k ≤ 1000000000) : Calls Tryz.prog 48 #[.agg #[.bool b, .slice A n c]] w (RetV w (.int .i64 z.sign)) := by
  obtain ⟨l, h1, rfl, h3⟩ := h
  exact r_sign_c w b A n c l h1 (by omega)
include h'
end
theorem r01_of (w : World) (i : Int) (k : Nat) (h0 : -9223372036854775808 ≤ i) (h1 : i < 9223372036854775808) (hs : i.natAbs < 4294967296 ^ k) : Calls Tryz.prog 22 #[.int .i64 i] w (RetI w i k) :=
  (r_of_c w i h0 h1).mono fun _ _ r => r.i hs
theorem r01_of1 (w : World) (i : Int) (h0 : -4294967296 < i) (h1 : i < 4294967296) : Calls Tryz.prog 22 #[.int .i64 i] w (RetI w i 1) := r01_of w i 1 (by omega) (by omega) (by omega)
end Go.Proofs.YtjanfdkbficmbaaGreatDoor

/- Walks: what the integer laws lean on: short, Same; roots and texts as values. -/
namespace Go.Proofs.YtjanfdkbficmbaaGreatDoor
open Go Go.RowKit Bn
attribute [local go_sem ↓] Go.wp_at_zero Go.wp_at_succ
def Ws (w : World) (g N : Nat) (ns : Nat → Nat) : Prop := g < w.heap.size ∧ ∀ i, i < N → ∃ b A c, w.cell? ⟨g, i * 2, none⟩ = some (.bool b) ∧ w.cell? ⟨g, i * 2 + 1, none⟩ = some (.slice A (ns i) c)
theorem Ws.belw {w w' : World} {g N : Nat} {ns : Nat → Nat} (h : Ws w g N ns) (hb : Below w.heap.size w w') : Ws w' g N ns := by
  obtain ⟨hg, h⟩ := h
  have hc := (bcell hb).1
  refine ⟨Nat.lt_of_lt_of_le hg hb.size, fun i hi => ?_⟩
  obtain ⟨b, A, c, h1, h2⟩ := h i hi
  exact ⟨b, A, c, (hc _ _ hg).trans h1, (hc _ _ hg).trans h2⟩
end Go.Proofs.YtjanfdkbficmbaaGreatDoor

/- The arguments of a row opened: integers, fractions and turns that came in. -/
namespace Go.Proofs.YtjanfdkbficmbaaGreatDoor
open Go Go.RowKit Bn Go.ChangeShapes Go.WideShapes

theorem args_again {H : Type} {enc : TypeId × Value → H} {W : World} {P : Program} (hl : laidOutB P = true) {W' : World} (hb : Below W.heap.size W W') : ∀ {ts : List TypeId} {vs : List Value} {ds : List (DataW H)} {ps : List MemPlace}, (ts.all fun t => P.readableRec t && decide (t < P.types.size)) = true →
    DataW.TrodAll enc P W 0 (fun _ => true) true ts vs ds ps → DataW.TrodAll enc P W' 0 (fun b => decide (b < W.heap.size)) true ts vs ds ps
  | [], [], [], _, _, h => h
  | _ :: _, _ :: _, _ :: _, _, hr, h => by
    have hlt := h.lt
    obtain ⟨p, q, h1, h2, e⟩ := h
    rw [List.all_cons, Bool.and_eq_true, Bool.and_eq_true, decide_eq_true_eq] at hr
    exact ⟨p, q, Below.trod hl hr.1.1 hr.1.2 h1 hb (fun x hx => hlt x (by rw [e]; exact List.mem_append_left _ hx)), args_again hl hb hr.2 h2, e⟩
  | [], [], _ :: _, _, _, h => h.elim
  | [], _ :: _, _, _, _, h => h.elim
  | _ :: _, [], _, _, _, h => h.elim
  | _ :: _, _ :: _, [], _, _, h => h.elim
theorem law_post {H : Type} {enc : TypeId × Value → H} {W : World} {P : Program} {B : TypeId} {f : Func} {s : ChangeSpec} {W' : World} {args : Array Value} {ds : List (DataW H)} {before : List MemPlace} (hl : laidOutB P = true) (hB : P.underlying B = some .bool)
    (hW : DataW.Whole enc P f.params.toList s.vars false W args.toList ds [] before) (hv : s.vars = []) (hr : f.resultTypes = #[B]) (hp : (f.params.toList.all fun t => P.readableRec t && decide (t < P.types.size)) = true)
    (hres : (s.fn H (ds ++ [])).results = [.lit (.bool true)]) (hargs : (s.fn H (ds ++ [])).args = ds) (hvars : (s.fn H (ds ++ [])).vars = []) (hb : Below W.heap.size W W') :
    s.post enc P f false true false false W args (.bool true) W' := by
  have hW' := hW
  obtain ⟨p, q, hA, hV, rfl, _, _⟩ := hW
  have hV' := hV
  rw [hv] at hV'
  obtain ⟨_, rfl⟩ := trodVars_none hV'
  refine ⟨ds, [], _, [], p, [], hW', ?_, ?_, ?_, hb.frame _, fun h => by cases h⟩
  · rw [hr, hres]
    exact trodAll_mk1 (shut_bool hB _)
  · rw [hargs]
    exact args_again hl hb hp hA
  · rw [hv, hvars]
    rfl
theorem joined_parts {P : Program} {f : FuncId} {fn : Func} {s : ChangeSpec} {c : OpenClaim}
    (h1 : (c.wf (OpenSpec.ofChange s) && laidOutB P && mapsRowed P && fn.params.all (P.readableRec ·) && namedTie P c.named s.vars && (c.stops == []) && (P.stops == []) && (c.knobs == []) && (P.stopKnobs == [])) = true)
    (h2 : (c.inPlace == P.inPlace f) = true) (h3 : (c.unfollowed == P.unfollowed f) = true) (h4 : (c.recurses == P.recurses f) = true) (h5 : (c.named == P.varsNamed f) = true)
    (h6 : ((c.maps == (fn.params.toList ++ s.plain.varTypes P).any (P.mapsRec ·)) && (c.ifaces == (fn.params.toList ++ s.plain.varTypes P).any (P.ifacesRec ·)) && (c.mapsOut == P.mapsAmong fn.resultTypes.toList) &&
      (c.loops == (fn.params.toList ++ s.plain.varTypes P).any (P.loopsFrom ·)) && (c.wideKeys == (fn.params.toList ++ s.plain.varTypes P ++ fn.resultTypes.toList).any (P.wideKeysFrom ·)) &&
      s.vars.all (P.varReadable ·) && fn.resultTypes.all (fun t => P.readableRec t && decide (t < P.types.size)) && (c.ifacesOut == fn.resultTypes.toList.any (P.ifacesRec ·)) && (c.loopsOut == fn.resultTypes.toList.any (P.loopsFrom ·)) && (c.plainKeys == P.plainKeys) && c.shortTexts.isNone && P.stopsHeard && P.mayEnter && (c.lifted == P.liftsFinal) && (P.make == some c.make) && (c.kinds == (if c.domain.isEmpty then [] else fn.params.toList.map fun t => match P.underlying t with | some (.int k) => some k | _ => none)) && (c.pinned == c.pinnedBy) &&
      (c.veiled == (fn.params.toList ++ s.plain.varTypes P ++ fn.resultTypes.toList).any (P.veiledRec ·)) && c.veiledFits P fn.params.toList (fn.params.toList ++ s.plain.varTypes P ++ fn.resultTypes.toList)) = true) : joinedFacts P f fn s c = true := by
  unfold joinedFacts
  simp only [Bool.and_eq_true] at h1 h6 ⊢
  obtain ⟨⟨⟨⟨⟨⟨⟨⟨a0, a1⟩, a2⟩, a3⟩, a4⟩, a5⟩, a6⟩, a7⟩, a8⟩ := h1
  obtain ⟨⟨⟨⟨⟨⟨⟨⟨⟨⟨⟨⟨⟨⟨⟨⟨⟨⟨b0, b1⟩, b2⟩, b3⟩, b4⟩, b5⟩, b6⟩, b7⟩, b8⟩, b9⟩, b10⟩, b11⟩, b12⟩, b13⟩, b14⟩, b15⟩, b16⟩, b17⟩, b18⟩ := h6
  exact ⟨⟨⟨⟨⟨⟨⟨⟨⟨⟨⟨⟨⟨⟨⟨⟨⟨⟨⟨⟨⟨⟨⟨⟨⟨⟨⟨⟨⟨⟨⟨a0, a1⟩, a2⟩, a3⟩, a4⟩, a5⟩, a6⟩, a7⟩, a8⟩, h2⟩, h3⟩, h4⟩, h5⟩, b0⟩, b1⟩, b2⟩, b3⟩, b4⟩, b5⟩, b6⟩, b7⟩, b8⟩, b9⟩, b10⟩, b11⟩, b12⟩, b13⟩, b14⟩, b15⟩, b16⟩, b17⟩, b18⟩
section
variable {H : Type} {enc : TypeId × Value → H} {W : World} {base : Nat}
end
theorem mx_of_shaped {W : World} (h : W.ShapedOpen Tryz.prog) : ∃ m, W.cell? ⟨0, 0, none⟩ = some (.int .i64 m) :=
  Go.Proofs.cell_of_shapedOpen_int (P := Tryz.prog) (g := 0) (t := 3) (zero := #[.int .i64 0]) h (of_decide_eq_true (by kernel_rfl)) (by kernel_rfl) rfl (by kernel_rfl) (by kernel_rfl) Tryz.underlying3
theorem g_pow : Tryz.prog.globalNamed "internal/strconv.uint64pow10" = some 5 := by kernel_rfl
theorem ty_pow : (Tryz.prog.globals[5]?).map (·.type) = some 155 := by kernel_rfl
theorem cells_pow : Tryz.prog.cellsOf 155 = 20 := by kernel_rfl
theorem cells_u64 : Tryz.prog.cellsOf 86 = 1 := by kernel_rfl
theorem pow_data {H : Type} : (Rows.laid_internal_strconv_uint64pow10 : DataW H) = Lib.tabData .u64 Lib.pow10Tab := by kernel_rfl
theorem tab_of_laid {rest : List (String × DataW Unit)} {W : World} (h : laidMet Tryz.prog (("math/bits.deBruijn32tab", Rows.laid_math_bits_deBruijn32tab) :: ("math/bits.deBruijn64tab", Rows.laid_math_bits_deBruijn64tab) :: ("internal/strconv.uint64pow10", Rows.laid_internal_strconv_uint64pow10) :: rest) W) : Tab W := by
  obtain ⟨ps, ⟨_, _, _, _, _, _, _, _, _, _, ⟨_, _, _, _, _, _, _, _, _, _, ⟨g, t, cs, f, p, q, hg, ht, hv, hd, _, _⟩, _⟩, _⟩, _, _⟩ := h
  obtain rfl := Option.some.inj (g_pow.symm.trans hg)
  obtain rfl := Option.some.inj (ty_pow.symm.trans ht)
  rw [pow_data] at hd
  unfold Tab Lib.TabIs
  rw [hv, ← Lib.cells_of_tab Tryz.underlying155 Tryz.underlying86 cells_u64 cells_pow hd]
noncomputable def low : Nat := (World.holding Tryz.prog default ⟨#[], #[], []⟩).heap.size
noncomputable def laidWorld (os : Os) : World :=
  let w0 := World.holding Tryz.prog os ⟨#[.cells #[.string ⟨#[118, 97, 108, 117, 101, 32, 111, 117, 116, 32, 111, 102, 32, 114, 97, 110, 103, 101]⟩] 147, .cells #[.string ⟨#[105, 110, 118, 97, 108, 105, 100, 32, 115, 121, 110, 116, 97, 120]⟩] 147], #[], []⟩
  { w0 with heap := (((((((w0.heap.modify 5 fun
      | .cells _ t frozen => .cells (#[.int .u64 1, .int .u64 10, .int .u64 100, .int .u64 1000, .int .u64 10000, .int .u64 100000, .int .u64 1000000, .int .u64 10000000, .int .u64 100000000, .int .u64 1000000000, .int .u64 10000000000, .int .u64 100000000000, .int .u64 1000000000000, .int .u64 10000000000000, .int .u64 100000000000000, .int .u64 1000000000000000, .int .u64 10000000000000000, .int .u64 100000000000000000, .int .u64 1000000000000000000, .int .u64 10000000000000000000]) t frozen
      | o => o).modify 6 fun
      | .cells _ t frozen => .cells (#[.int .u8 0, .int .u8 1, .int .u8 28, .int .u8 2, .int .u8 29, .int .u8 14, .int .u8 24, .int .u8 3, .int .u8 30, .int .u8 22, .int .u8 20, .int .u8 15, .int .u8 25, .int .u8 17, .int .u8 4, .int .u8 8, .int .u8 31, .int .u8 27, .int .u8 13, .int .u8 23, .int .u8 21, .int .u8 19, .int .u8 16, .int .u8 7, .int .u8 26, .int .u8 12, .int .u8 18, .int .u8 6, .int .u8 11, .int .u8 5, .int .u8 10, .int .u8 9]) t frozen
      | o => o).modify 7 fun
      | .cells _ t frozen => .cells (#[.int .u8 0, .int .u8 1, .int .u8 56, .int .u8 2, .int .u8 57, .int .u8 49, .int .u8 28, .int .u8 3, .int .u8 61, .int .u8 58, .int .u8 42, .int .u8 50, .int .u8 38, .int .u8 29, .int .u8 17, .int .u8 4, .int .u8 62, .int .u8 47, .int .u8 59, .int .u8 36, .int .u8 45, .int .u8 43, .int .u8 51, .int .u8 22, .int .u8 53, .int .u8 39, .int .u8 33, .int .u8 30, .int .u8 24, .int .u8 18, .int .u8 12, .int .u8 5, .int .u8 63, .int .u8 55, .int .u8 48, .int .u8 27, .int .u8 60, .int .u8 41, .int .u8 37, .int .u8 16, .int .u8 46, .int .u8 35, .int .u8 44, .int .u8 21, .int .u8 52, .int .u8 32, .int .u8 23, .int .u8 11, .int .u8 54, .int .u8 26, .int .u8 40, .int .u8 15, .int .u8 34, .int .u8 20, .int .u8 31, .int .u8 10, .int .u8 25, .int .u8 14, .int .u8 19, .int .u8 9, .int .u8 13, .int .u8 8, .int .u8 7, .int .u8 6]) t frozen
      | o => o).modify 4 fun
      | .cells _ t frozen => .cells (#[.int .u8 128, .int .u8 191, .int .u8 160, .int .u8 191, .int .u8 128, .int .u8 159, .int .u8 144, .int .u8 191, .int .u8 128, .int .u8 143, .int .u8 0, .int .u8 0, .int .u8 0, .int .u8 0, .int .u8 0, .int .u8 0, .int .u8 0, .int .u8 0, .int .u8 0, .int .u8 0, .int .u8 0, .int .u8 0, .int .u8 0, .int .u8 0, .int .u8 0, .int .u8 0, .int .u8 0, .int .u8 0, .int .u8 0, .int .u8 0, .int .u8 0, .int .u8 0]) t frozen
      | o => o).modify 3 fun
      | .cells _ t frozen => .cells ((Go.Pinned.utf8FirstZ.map fun z : Nat => Value.int .u8 (z : Int)).toArray) t frozen
      | o => o).modify 2 fun
      | .cells _ t frozen => .cells (#[.iface 145 (.pointer (some ⟨low, 0, none⟩))]) t frozen
      | o => o).modify 1 fun
      | .cells _ t frozen => .cells (#[.iface 145 (.pointer (some ⟨low + 1, 0, none⟩))]) t frozen
      | o => o) }
theorem own_knob : ownKnob Tryz.prog.godebug = none := by kernel_rfl
theorem laid_out : laidOutB Tryz.prog = true := by kernel_rfl
end Go.Proofs.YtjanfdkbficmbaaGreatDoor

/- Walks: fractions in lowest terms. -/
namespace Go.Proofs.YtjanfdkbficmbaaGreatDoor
open Go Go.RowKit Bn
attribute [local go_sem ↓] Go.wp_at_zero Go.wp_at_succ
theorem int_q (i : Int) : Rat.divInt i 1 = (i : Rat) := by have := q_eq (i : Rat); simpa using this.symm
theorem sign3 (z : Int) : z = 0 ∨ z.sign = 1 ∨ z.sign = -1 := by
  rcases Int.lt_trichotomy z 0 with h | h | h
  · exact .inr (.inr (Int.sign_eq_neg_one_of_neg h))
  · exact .inl h
  · exact .inr (.inl (Int.sign_eq_one_of_pos h))
theorem sign_pos {z : Int} (h : z.sign = 1) : 0 < z := Int.sign_eq_one_iff_pos.1 h
theorem sign_neg_ {z : Int} (h : z.sign = -1) : 0 < -z := by have := Int.sign_eq_neg_one_iff_neg.1 h; omega
theorem sign_ne {z : Int} (h : z.sign = -1) : z ≠ 0 := by rintro rfl; cases h
theorem gcd_ne {a b : Int} (h : 0 < b) : ((Nat.gcd a.natAbs b.natAbs : Nat) : Int) ≠ 0 := by
  have : 0 < Nat.gcd a.natAbs b.natAbs := Nat.gcd_pos_of_pos_right _ (by omega)
  omega
theorem wh_div {a : Int} (g : Nat) (h : 0 < a) : (wh (a / (g : Int))).mag = digs (a.natAbs / g) := by
  have e : (a / (g : Int)) = ((a.natAbs / g : Nat) : Int) := by
    rw [Int.natCast_ediv, Int.natAbs_of_nonneg (by omega)]
  rw [e]; rfl
theorem form_pos {z d : Int} {q : Rat} (hz : z.sign = 1) (hd : 0 < d) (hq : Rat.divInt z d = q) :
    (rd q).num = (wh (z / ((Nat.gcd z.natAbs d.natAbs : Nat) : Int))).mag ∧ (rd q).den = (wh (d / ((Nat.gcd z.natAbs d.natAbs : Nat) : Int))).mag ∧ (rd q).neg = false := by
  have hp := sign_pos hz
  rw [← hq, rd_divInt (by omega) hd, wh_div _ hp, wh_div _ hd]
  exact ⟨rfl, rfl, by simp; omega⟩
theorem form_neg {z d : Int} {q : Rat} (hz : z.sign = -1) (hd : 0 < d) (hq : Rat.divInt z d = q) :
    (rd q).num = (wh (-z / ((Nat.gcd z.natAbs d.natAbs : Nat) : Int))).mag ∧ (rd q).den = (wh (d / ((Nat.gcd z.natAbs d.natAbs : Nat) : Int))).mag ∧ (rd q).neg = true := by
  have hp := sign_neg_ hz
  rw [← hq, rd_divInt (by omega) hd, wh_div _ hp, wh_div _ hd, Int.natAbs_neg]
  exact ⟨rfl, rfl, by simp; omega⟩
theorem i_sign_e (w : World) (b : Bool) (A : Option Addr) (n c : Nat) (z : Int) (k : Nat) (h : IZ w b A n c z k) (s : Int) (hs : z.sign = s) (hk : k ≤ 1000000000) : Calls Tryz.prog 46 #[.agg #[.bool b, .slice A n c]] w (RetV w (.int .i64 s)) := by
  subst hs; exact i_sign w b A n c z k h hk
theorem f_form_0 (w : World) (b : Bool) (A : Option Addr) (n c : Nat) (z : Int) (k : Nat) (h : IZ w b A n c z k) (b' : Bool) (A' : Option Addr) (n' c' : Nat) (z' : Int) (k' : Nat) (h' : IZ w b' A' n' c' z' k') (K : Nat) (hz : z = 0) (hk : k + k' ≤ 300000000) :
  Calls Tryz.prog 47 #[.agg #[.bool b, .slice A n c], .agg #[.bool b', .slice A' n' c']] w (RetF w 0 K) := by
 have HZ := Lib.hid (show z.sign = 0 by rw [hz]; rfl)
 clear hz
 go_enter Tryz.func47, Tryz.ntmps47
 go_wp2_with fail
 (with_reducible refine (i_sign_e _ b A n c (z) (k) ?_ (0) ?_ ?_).mono ?_); (exact (h.belw ((((Below.refl _ _).alloc (Nat.le_refl _) _).alloc (by simp) _).alloc (by simp <;> omega) _))); (exact HZ.out); (omega); rintro e w1 ⟨rfl, hb1⟩
 have q1 := ((((Below.refl _ _).alloc (Nat.le_refl _) _).alloc (by simp) _).alloc (by simp <;> omega) _).trans (hb1.mono (by simp <;> omega))
 replace h := h.belw q1
 replace h' := h'.belw q1
 have x1a : Blk w1 w.heap.size 52 #[.bool b, .slice A n c] := (((blkAt _ _ _ (by simp)).alloc _).alloc _).below hb1 (by simp <;> omega)
 have x1b := ((blkAt _ _ _ (g := w.heap.size + 1) (by simp)).alloc _).below hb1 (by simp <;> omega)
 have x1c := (blkAt _ _ _ (g := w.heap.size + 1 + 1) (by simp)).below hb1 (by simp)
 have bw1 := (brefl w).trans (q1.mono (brefl w).size)
 have lw1 : w.heap.size + 3 ≤ w1.heap.size := by have := hb1.size; simp at this; omega
 clear q1
 obtain ⟨cx1ca, cx1cb, cx1cc⟩ := x1c.c3
 obtain ⟨fx1ca, fx1cb, fx1cc⟩ := x1c.f3
 obtain ⟨lx1ca, lx1cb, lx1cc, lx1cd⟩ := lts2 x1c.lt
 go_wp2_with fail
 refine bodyPost_ret (v := .agg #[.bool false, .slice none 0 0, .slice none 0 0]) (by simp [results, Tryz.results47, go_sem, *] <;> first | rfl | exact ⟨rfl, rfl⟩) rfl ?_
 exact ⟨false, none, 0, 0, none, 0, 0, rfl, QV.zero _ _, (((bw1.sc (w.heap.size + 1 + 1) 0 (by omega) (.bool false)).sc (w.heap.size + 1 + 1) 1 (by omega) (.slice none 0 0)).sc (w.heap.size + 1 + 1) 2 (by omega) (.slice none 0 0))⟩
theorem f_form_pp (w : World) (b : Bool) (A : Option Addr) (n c : Nat) (z : Int) (k : Nat) (h : IZ w b A n c z k) (b' : Bool) (A' : Option Addr) (n' c' : Nat) (z' : Int) (k' : Nat) (h' : IZ w b' A' n' c' z' k') (q : Rat) (K : Nat) (hz : z.sign = 1) (hd : z'.sign = 1) (hq : Rat.divInt z z' = q) (hs : Sz q K) (hk : k + k' ≤ 300000000) :
  Calls Tryz.prog 47 #[.agg #[.bool b, .slice A n c], .agg #[.bool b', .slice A' n' c']] w (RetF w q K) := by
 have HZ := Lib.hid hz
 have HD := Lib.hid hd
 have HN := Lib.hid (show (z).sign = 1 by exact hz)
 have HP := Lib.hid (show 0 < z' by exact sign_pos hd)
 have HG := Lib.hid (show ((Nat.gcd (z).natAbs (z').natAbs : Nat) : Int) ≠ 0 from gcd_ne HP.out)
 have HQ := Lib.hid (show Rat.divInt z z' = q by exact hq)
 have HS := Lib.hid hs
 clear hz hd hq hs
 go_enter Tryz.func47, Tryz.ntmps47
 go_wp2_with fail
 (with_reducible refine (i_sign_e _ b A n c (z) (k) ?_ (1) ?_ ?_).mono ?_); (exact (h.belw ((((Below.refl _ _).alloc (Nat.le_refl _) _).alloc (by simp) _).alloc (by simp <;> omega) _))); (exact HZ.out); (omega); rintro e w1 ⟨rfl, hb1⟩
 have q1 := ((((Below.refl _ _).alloc (Nat.le_refl _) _).alloc (by simp) _).alloc (by simp <;> omega) _).trans (hb1.mono (by simp <;> omega))
 replace h := h.belw q1
 replace h' := h'.belw q1
 have x1a : Blk w1 w.heap.size 52 #[.bool b, .slice A n c] := (((blkAt _ _ _ (by simp)).alloc _).alloc _).below hb1 (by simp <;> omega)
 have x1b := ((blkAt _ _ _ (g := w.heap.size + 1) (by simp)).alloc _).below hb1 (by simp <;> omega)
 have x1c := (blkAt _ _ _ (g := w.heap.size + 1 + 1) (by simp)).below hb1 (by simp)
 have bw1 := (brefl w).trans (q1.mono (brefl w).size)
 have lw1 : w.heap.size + 3 ≤ w1.heap.size := by have := hb1.size; simp at this; omega
 clear q1
 obtain ⟨cx1ba, cx1bb⟩ := x1b.c2
 obtain ⟨lx1ba, lx1bb, lx1bc, lx1bd⟩ := lts1 x1b.lt
 go_wp2_with fail
 (with_reducible refine (i_sign_e _ b' A' n' c' (z') (k') ?_ (1) ?_ ?_).mono ?_); (exact h'); (exact HD.out); (omega); rintro e w2 ⟨rfl, q2⟩
 clear cx1ba cx1bb lx1ba lx1bb lx1bc lx1bd
 replace h := h.belw q2
 replace h' := h'.belw q2
 replace x1a := x1a.b q2
 replace x1b := x1b.b q2
 replace x1c := x1c.b q2
 have bw2 := bw1.trans (q2.mono bw1.size)
 have lw2 := q2.size
 clear q2 bw1
 obtain ⟨cx1aa, cx1ab⟩ := x1a.c2
 obtain ⟨lx1aa, lx1ab, lx1ac, lx1ad⟩ := lts0 x1a.lt
 obtain ⟨cx1ba, cx1bb⟩ := x1b.c2
 obtain ⟨lx1ba, lx1bb, lx1bc, lx1bd⟩ := lts1 x1b.lt
 go_wp2_with fail
 (with_reducible refine (i_gcd _ b A n c (z) (k) ?_ b' A' n' c' (z') (k') ?_ ?_).mono ?_); (exact h); (exact h'); (first | omega | decide | assumption); rintro e w3 ⟨b3, A3, n3, c3, rfl, h3, q3⟩
 clear cx1aa cx1ab lx1aa lx1ab lx1ac lx1ad cx1ba cx1bb lx1ba lx1bb lx1bc lx1bd
 replace h := h.belw q3
 replace h' := h'.belw q3
 replace x1a := x1a.b q3
 replace x1b := x1b.b q3
 replace x1c := x1c.b q3
 have bw3 := bw2.trans (q3.mono bw2.size)
 have lw3 := q3.size
 clear q3 bw2
 obtain ⟨cx1aa, cx1ab⟩ := x1a.c2
 obtain ⟨lx1aa, lx1ab, lx1ac, lx1ad⟩ := lts0 x1a.lt
 go_wp2_with fail
 (with_reducible refine (i_sign_e _ b A n c (z) (k) ?_ (1) ?_ ?_).mono ?_); (exact (h.belw ((Below.refl _ _).alloc (Nat.le_refl _) _))); (exact HN.out); (omega); rintro e w4 ⟨rfl, hb4⟩
 clear cx1aa cx1ab lx1aa lx1ab lx1ac lx1ad
 have q4 := ((Below.refl _ _).alloc (Nat.le_refl _) _).trans (hb4.mono (by simp))
 replace h := h.belw q4
 replace h' := h'.belw q4
 replace h3 := h3.belw q4
 replace x1a := x1a.b q4
 replace x1b := x1b.b q4
 replace x1c := x1c.b q4
 have x4a : Blk w4 w3.heap.size 52 #[.bool b3, .slice A3 n3 c3] := (blkAt _ _ _ (by simp)).below hb4 (by simp)
 have bw4 := bw3.trans (q4.mono bw3.size)
 have lw4 : w3.heap.size + 1 ≤ w4.heap.size := by have := hb4.size; simp at this; omega
 clear q4 bw3
 obtain ⟨cx1aa, cx1ab⟩ := x1a.c2
 obtain ⟨lx1aa, lx1ab, lx1ac, lx1ad⟩ := lts0 x1a.lt
 obtain ⟨cx4aa, cx4ab⟩ := x4a.c2
 obtain ⟨lx4aa, lx4ab, lx4ac, lx4ad⟩ := lts0 x4a.lt
 go_wp2_with fail
 (with_reducible refine (i_div _ b A n c (z) (k) ?_ b3 A3 n3 c3 ((Nat.gcd ((z)).natAbs ((z')).natAbs : Nat)) ((k) + (k')) ?_  ?_ ?_).mono ?_); (exact h); (exact h3.iz); (omega); (exact HG.out); rintro e w5 ⟨b5, A5, n5, c5, b'5, A'5, n'5, c'5, rfl, h5, h'5, q5⟩
 clear cx1aa cx1ab lx1aa lx1ab lx1ac lx1ad cx4aa cx4ab lx4aa lx4ab lx4ac lx4ad
 replace h := h.belw q5
 replace h' := h'.belw q5
 replace h3 := h3.belw q5
 replace x1a := x1a.b q5
 replace x1b := x1b.b q5
 replace x1c := x1c.b q5
 replace x4a := x4a.b q5
 have bw5 := bw4.trans (q5.mono bw4.size)
 have lw5 := q5.size
 clear q5 bw4
 obtain ⟨cx1aa, cx1ab⟩ := x1a.c2
 obtain ⟨fx1aa, fx1ab⟩ := x1a.f2
 obtain ⟨lx1aa, lx1ab, lx1ac, lx1ad⟩ := lts0 x1a.lt
 obtain ⟨cx1ba, cx1bb⟩ := x1b.c2
 obtain ⟨lx1ba, lx1bb, lx1bc, lx1bd⟩ := lts1 x1b.lt
 obtain ⟨cx4aa, cx4ab⟩ := x4a.c2
 obtain ⟨lx4aa, lx4ab, lx4ac, lx4ad⟩ := lts0 x4a.lt
 go_wp2_with fail
 clear cx1aa fx1aa cx1ab fx1ab lx1aa lx1ab lx1ac lx1ad cx1ba cx1bb lx1ba lx1bb lx1bc lx1bd cx4aa cx4ab lx4aa lx4ab lx4ac lx4ad
 have p6 := (((Kp.refl w5).sb w.heap.size 0 x1a.box (by decide) (.bool b5)).sb w.heap.size 1 (x1a.box.set ⟨w.heap.size, 0, none⟩ (.bool b5)) (by decide) (.slice A5 n5 c5))
 have bw6 := ((bw5.sc w.heap.size 0 (by omega) (.bool b5)).sc w.heap.size 1 (by omega) (.slice A5 n5 c5))
 replace x1a := ((x1a.set_at 0 (.bool b5) #[.bool b5, .slice A n c] (by simp)).set_at 1 (.slice A5 n5 c5) #[.bool b5, .slice A5 n5 c5] (by simp))
 replace x1b := ((x1b.fr w.heap.size 0 (by omega) (.bool b5)).fr w.heap.size 1 (by omega) (.slice A5 n5 c5))
 replace x1c := ((x1c.fr w.heap.size 0 (by omega) (.bool b5)).fr w.heap.size 1 (by omega) (.slice A5 n5 c5))
 replace x4a := ((x4a.fr w.heap.size 0 (by omega) (.bool b5)).fr w.heap.size 1 (by omega) (.slice A5 n5 c5))
 have lw6 : w5.heap.size + 0 ≤ ((w5.setCell ⟨w.heap.size, 0, none⟩ (.bool b5)).setCell ⟨w.heap.size, 1, none⟩ (.slice A5 n5 c5)).heap.size := by simp
 generalize hE6 : ((w5.setCell ⟨w.heap.size, 0, none⟩ (.bool b5)).setCell ⟨w.heap.size, 1, none⟩ (.slice A5 n5 c5)) = w6 at p6 bw6 lw6 x1a x1b x1c x4a ⊢
 clear hE6
 replace h := h.keep p6
 replace h' := h'.keep p6
 replace h3 := h3.keep p6
 replace h5 := h5.keep p6
 replace h'5 := h'5.keep p6
 clear bw5
 (with_reducible refine (i_div _ b' A' n' c' (z') (k') ?_ b3 A3 n3 c3 ((Nat.gcd ((z)).natAbs ((z')).natAbs : Nat)) ((k) + (k')) ?_  ?_ ?_).mono ?_); (exact h'); (exact h3.iz); (omega); (exact HG.out); rintro e w7 ⟨b7, A7, n7, c7, b'7, A'7, n'7, c'7, rfl, h7, h'7, q7⟩
 replace h := h.belw q7
 replace h' := h'.belw q7
 replace h3 := h3.belw q7
 replace h5 := h5.belw q7
 replace h'5 := h'5.belw q7
 replace x1a := x1a.b q7
 replace x1b := x1b.b q7
 replace x1c := x1c.b q7
 replace x4a := x4a.b q7
 have bw7 := bw6.trans (q7.mono bw6.size)
 have lw7 := q7.size
 clear q7 bw6
 obtain ⟨cx1aa, cx1ab⟩ := x1a.c2
 obtain ⟨lx1aa, lx1ab, lx1ac, lx1ad⟩ := lts0 x1a.lt
 obtain ⟨cx1ba, cx1bb⟩ := x1b.c2
 obtain ⟨fx1ba, fx1bb⟩ := x1b.f2
 obtain ⟨lx1ba, lx1bb, lx1bc, lx1bd⟩ := lts1 x1b.lt
 obtain ⟨cx1ca, cx1cb, cx1cc⟩ := x1c.c3
 obtain ⟨fx1ca, fx1cb, fx1cc⟩ := x1c.f3
 obtain ⟨lx1ca, lx1cb, lx1cc, lx1cd⟩ := lts2 x1c.lt
 go_wp2_with fail
 refine bodyPost_ret (v := .agg #[.bool false, .slice A5 n5 c5, .slice A7 n7 c7]) (by simp [results, Tryz.results47, go_sem, *] <;> first | rfl | exact ⟨rfl, rfl⟩) rfl ?_
 obtain ⟨e1, e2, e3⟩ := form_pos HN.out HP.out HQ.out
 exact ⟨_, _, _, _, _, _, _, rfl, QV.mk_ (by rw [e1]; exact h5.2.1.keep ((((((Kp.refl w7).sb (w.heap.size + 1) 0 x1b.box (by decide) (.bool b7)).sb (w.heap.size + 1) 1 (x1b.box.set ⟨w.heap.size + 1, 0, none⟩ (.bool b7)) (by decide) (.slice A7 n7 c7)).sb (w.heap.size + 1 + 1) 0 ((x1c.box.set ⟨w.heap.size + 1, 0, none⟩ (.bool b7)).set ⟨w.heap.size + 1, 1, none⟩ (.slice A7 n7 c7)) (by decide) (.bool false)).sb (w.heap.size + 1 + 1) 1 (((x1c.box.set ⟨w.heap.size + 1, 0, none⟩ (.bool b7)).set ⟨w.heap.size + 1, 1, none⟩ (.slice A7 n7 c7)).set ⟨w.heap.size + 1 + 1, 0, none⟩ (.bool false)) (by decide) (.slice A5 n5 c5)).sb (w.heap.size + 1 + 1) 2 ((((x1c.box.set ⟨w.heap.size + 1, 0, none⟩ (.bool b7)).set ⟨w.heap.size + 1, 1, none⟩ (.slice A7 n7 c7)).set ⟨w.heap.size + 1 + 1, 0, none⟩ (.bool false)).set ⟨w.heap.size + 1 + 1, 1, none⟩ (.slice A5 n5 c5)) (by decide) (.slice A7 n7 c7))) (by rw [e2]; exact h7.2.1.keep ((((((Kp.refl w7).sb (w.heap.size + 1) 0 x1b.box (by decide) (.bool b7)).sb (w.heap.size + 1) 1 (x1b.box.set ⟨w.heap.size + 1, 0, none⟩ (.bool b7)) (by decide) (.slice A7 n7 c7)).sb (w.heap.size + 1 + 1) 0 ((x1c.box.set ⟨w.heap.size + 1, 0, none⟩ (.bool b7)).set ⟨w.heap.size + 1, 1, none⟩ (.slice A7 n7 c7)) (by decide) (.bool false)).sb (w.heap.size + 1 + 1) 1 (((x1c.box.set ⟨w.heap.size + 1, 0, none⟩ (.bool b7)).set ⟨w.heap.size + 1, 1, none⟩ (.slice A7 n7 c7)).set ⟨w.heap.size + 1 + 1, 0, none⟩ (.bool false)) (by decide) (.slice A5 n5 c5)).sb (w.heap.size + 1 + 1) 2 ((((x1c.box.set ⟨w.heap.size + 1, 0, none⟩ (.bool b7)).set ⟨w.heap.size + 1, 1, none⟩ (.slice A7 n7 c7)).set ⟨w.heap.size + 1 + 1, 0, none⟩ (.bool false)).set ⟨w.heap.size + 1 + 1, 1, none⟩ (.slice A5 n5 c5)) (by decide) (.slice A7 n7 c7))) e3 HS.out, (((((bw7.sc (w.heap.size + 1) 0 (by omega) (.bool b7)).sc (w.heap.size + 1) 1 (by omega) (.slice A7 n7 c7)).sc (w.heap.size + 1 + 1) 0 (by omega) (.bool false)).sc (w.heap.size + 1 + 1) 1 (by omega) (.slice A5 n5 c5)).sc (w.heap.size + 1 + 1) 2 (by omega) (.slice A7 n7 c7))⟩
theorem f_form_pn (w : World) (b : Bool) (A : Option Addr) (n c : Nat) (z : Int) (k : Nat) (h : IZ w b A n c z k) (b' : Bool) (A' : Option Addr) (n' c' : Nat) (z' : Int) (k' : Nat) (h' : IZ w b' A' n' c' z' k') (q : Rat) (K : Nat) (hz : z.sign = -1) (hd : z'.sign = 1) (hq : Rat.divInt z z' = q) (hs : Sz q K) (hk : k + k' ≤ 300000000) :
  Calls Tryz.prog 47 #[.agg #[.bool b, .slice A n c], .agg #[.bool b', .slice A' n' c']] w (RetF w q K) := by
 have HZ := Lib.hid hz
 have HD := Lib.hid hd
 have HN := Lib.hid (show (z).sign = -1 by exact hz)
 have HP := Lib.hid (show 0 < z' by exact sign_pos hd)
 have HG := Lib.hid (show ((Nat.gcd (z).natAbs (z').natAbs : Nat) : Int) ≠ 0 from gcd_ne HP.out)
 have HQ := Lib.hid (show Rat.divInt z z' = q by exact hq)
 have HS := Lib.hid hs
 clear hz hd hq hs
 go_enter Tryz.func47, Tryz.ntmps47
 go_wp2_with fail
 (with_reducible refine (i_sign_e _ b A n c (z) (k) ?_ (-1) ?_ ?_).mono ?_); (exact (h.belw ((((Below.refl _ _).alloc (Nat.le_refl _) _).alloc (by simp) _).alloc (by simp <;> omega) _))); (exact HZ.out); (omega); rintro e w1 ⟨rfl, hb1⟩
 have q1 := ((((Below.refl _ _).alloc (Nat.le_refl _) _).alloc (by simp) _).alloc (by simp <;> omega) _).trans (hb1.mono (by simp <;> omega))
 replace h := h.belw q1
 replace h' := h'.belw q1
 have x1a : Blk w1 w.heap.size 52 #[.bool b, .slice A n c] := (((blkAt _ _ _ (by simp)).alloc _).alloc _).below hb1 (by simp <;> omega)
 have x1b := ((blkAt _ _ _ (g := w.heap.size + 1) (by simp)).alloc _).below hb1 (by simp <;> omega)
 have x1c := (blkAt _ _ _ (g := w.heap.size + 1 + 1) (by simp)).below hb1 (by simp)
 have bw1 := (brefl w).trans (q1.mono (brefl w).size)
 have lw1 : w.heap.size + 3 ≤ w1.heap.size := by have := hb1.size; simp at this; omega
 clear q1
 obtain ⟨cx1ba, cx1bb⟩ := x1b.c2
 obtain ⟨lx1ba, lx1bb, lx1bc, lx1bd⟩ := lts1 x1b.lt
 go_wp2_with fail
 (with_reducible refine (i_sign_e _ b' A' n' c' (z') (k') ?_ (1) ?_ ?_).mono ?_); (exact h'); (exact HD.out); (omega); rintro e w2 ⟨rfl, q2⟩
 clear cx1ba cx1bb lx1ba lx1bb lx1bc lx1bd
 replace h := h.belw q2
 replace h' := h'.belw q2
 replace x1a := x1a.b q2
 replace x1b := x1b.b q2
 replace x1c := x1c.b q2
 have bw2 := bw1.trans (q2.mono bw1.size)
 have lw2 := q2.size
 clear q2 bw1
 obtain ⟨cx1aa, cx1ab⟩ := x1a.c2
 obtain ⟨lx1aa, lx1ab, lx1ac, lx1ad⟩ := lts0 x1a.lt
 obtain ⟨cx1ba, cx1bb⟩ := x1b.c2
 obtain ⟨lx1ba, lx1bb, lx1bc, lx1bd⟩ := lts1 x1b.lt
 go_wp2_with fail
 (with_reducible refine (i_gcd _ b A n c (z) (k) ?_ b' A' n' c' (z') (k') ?_ ?_).mono ?_); (exact h); (exact h'); (first | omega | decide | assumption); rintro e w3 ⟨b3, A3, n3, c3, rfl, h3, q3⟩
 clear cx1aa cx1ab lx1aa lx1ab lx1ac lx1ad cx1ba cx1bb lx1ba lx1bb lx1bc lx1bd
 replace h := h.belw q3
 replace h' := h'.belw q3
 replace x1a := x1a.b q3
 replace x1b := x1b.b q3
 replace x1c := x1c.b q3
 have bw3 := bw2.trans (q3.mono bw2.size)
 have lw3 := q3.size
 clear q3 bw2
 obtain ⟨cx1aa, cx1ab⟩ := x1a.c2
 obtain ⟨lx1aa, lx1ab, lx1ac, lx1ad⟩ := lts0 x1a.lt
 go_wp2_with fail
 (with_reducible refine (i_sign_e _ b A n c (z) (k) ?_ (-1) ?_ ?_).mono ?_); (exact (h.belw ((Below.refl _ _).alloc (Nat.le_refl _) _))); (exact HN.out); (omega); rintro e w4 ⟨rfl, hb4⟩
 clear cx1aa cx1ab lx1aa lx1ab lx1ac lx1ad
 have q4 := ((Below.refl _ _).alloc (Nat.le_refl _) _).trans (hb4.mono (by simp))
 replace h := h.belw q4
 replace h' := h'.belw q4
 replace h3 := h3.belw q4
 replace x1a := x1a.b q4
 replace x1b := x1b.b q4
 replace x1c := x1c.b q4
 have x4a : Blk w4 w3.heap.size 52 #[.bool b3, .slice A3 n3 c3] := (blkAt _ _ _ (by simp)).below hb4 (by simp)
 have bw4 := bw3.trans (q4.mono bw3.size)
 have lw4 : w3.heap.size + 1 ≤ w4.heap.size := by have := hb4.size; simp at this; omega
 clear q4 bw3
 obtain ⟨cx1aa, cx1ab⟩ := x1a.c2
 obtain ⟨lx1aa, lx1ab, lx1ac, lx1ad⟩ := lts0 x1a.lt
 go_wp2_with fail
 (with_reducible refine (i_neg _ b A n c (z) (k) ?_ ?_).mono ?_); (exact h); (first | omega | decide | assumption); rintro e w5 ⟨b5, A5, n5, c5, rfl, h5, q5⟩
 clear cx1aa cx1ab lx1aa lx1ab lx1ac lx1ad
 replace h := h.belw q5
 replace h' := h'.belw q5
 replace h3 := h3.belw q5
 replace x1a := x1a.b q5
 replace x1b := x1b.b q5
 replace x1c := x1c.b q5
 replace x4a := x4a.b q5
 have bw5 := bw4.trans (q5.mono bw4.size)
 have lw5 := q5.size
 clear q5 bw4
 obtain ⟨cx1aa, cx1ab⟩ := x1a.c2
 obtain ⟨fx1aa, fx1ab⟩ := x1a.f2
 obtain ⟨lx1aa, lx1ab, lx1ac, lx1ad⟩ := lts0 x1a.lt
 obtain ⟨cx4aa, cx4ab⟩ := x4a.c2
 obtain ⟨lx4aa, lx4ab, lx4ac, lx4ad⟩ := lts0 x4a.lt
 go_wp2_with fail
 clear cx1aa fx1aa cx1ab fx1ab lx1aa lx1ab lx1ac lx1ad cx4aa cx4ab lx4aa lx4ab lx4ac lx4ad
 have p6 := (((Kp.refl w5).sb w.heap.size 0 x1a.box (by decide) (.bool b5)).sb w.heap.size 1 (x1a.box.set ⟨w.heap.size, 0, none⟩ (.bool b5)) (by decide) (.slice A5 n5 c5))
 have bw6 := ((bw5.sc w.heap.size 0 (by omega) (.bool b5)).sc w.heap.size 1 (by omega) (.slice A5 n5 c5))
 replace x1a := ((x1a.set_at 0 (.bool b5) #[.bool b5, .slice A n c] (by simp)).set_at 1 (.slice A5 n5 c5) #[.bool b5, .slice A5 n5 c5] (by simp))
 replace x1b := ((x1b.fr w.heap.size 0 (by omega) (.bool b5)).fr w.heap.size 1 (by omega) (.slice A5 n5 c5))
 replace x1c := ((x1c.fr w.heap.size 0 (by omega) (.bool b5)).fr w.heap.size 1 (by omega) (.slice A5 n5 c5))
 replace x4a := ((x4a.fr w.heap.size 0 (by omega) (.bool b5)).fr w.heap.size 1 (by omega) (.slice A5 n5 c5))
 have lw6 : w5.heap.size + 0 ≤ ((w5.setCell ⟨w.heap.size, 0, none⟩ (.bool b5)).setCell ⟨w.heap.size, 1, none⟩ (.slice A5 n5 c5)).heap.size := by simp
 generalize hE6 : ((w5.setCell ⟨w.heap.size, 0, none⟩ (.bool b5)).setCell ⟨w.heap.size, 1, none⟩ (.slice A5 n5 c5)) = w6 at p6 bw6 lw6 x1a x1b x1c x4a ⊢
 clear hE6
 replace h := h.keep p6
 replace h' := h'.keep p6
 replace h3 := h3.keep p6
 replace h5 := h5.keep p6
 clear bw5
 (with_reducible refine (i_div _ b5 A5 n5 c5 (-(z)) ((k)) ?_ b3 A3 n3 c3 ((Nat.gcd ((z)).natAbs ((z')).natAbs : Nat)) ((k) + (k')) ?_  ?_ ?_).mono ?_); (exact h5.iz); (exact h3.iz); (omega); (exact HG.out); rintro e w7 ⟨b7, A7, n7, c7, b'7, A'7, n'7, c'7, rfl, h7, h'7, q7⟩
 replace h := h.belw q7
 replace h' := h'.belw q7
 replace h3 := h3.belw q7
 replace h5 := h5.belw q7
 replace x1a := x1a.b q7
 replace x1b := x1b.b q7
 replace x1c := x1c.b q7
 replace x4a := x4a.b q7
 have bw7 := bw6.trans (q7.mono bw6.size)
 have lw7 := q7.size
 clear q7 bw6
 obtain ⟨cx1aa, cx1ab⟩ := x1a.c2
 obtain ⟨fx1aa, fx1ab⟩ := x1a.f2
 obtain ⟨lx1aa, lx1ab, lx1ac, lx1ad⟩ := lts0 x1a.lt
 obtain ⟨cx1ba, cx1bb⟩ := x1b.c2
 obtain ⟨lx1ba, lx1bb, lx1bc, lx1bd⟩ := lts1 x1b.lt
 obtain ⟨cx4aa, cx4ab⟩ := x4a.c2
 obtain ⟨lx4aa, lx4ab, lx4ac, lx4ad⟩ := lts0 x4a.lt
 go_wp2_with fail
 clear cx1aa fx1aa cx1ab fx1ab lx1aa lx1ab lx1ac lx1ad cx1ba cx1bb lx1ba lx1bb lx1bc lx1bd cx4aa cx4ab lx4aa lx4ab lx4ac lx4ad
 have p8 := (((Kp.refl w7).sb w.heap.size 0 x1a.box (by decide) (.bool b7)).sb w.heap.size 1 (x1a.box.set ⟨w.heap.size, 0, none⟩ (.bool b7)) (by decide) (.slice A7 n7 c7))
 have bw8 := ((bw7.sc w.heap.size 0 (by omega) (.bool b7)).sc w.heap.size 1 (by omega) (.slice A7 n7 c7))
 replace x1a := ((x1a.set_at 0 (.bool b7) #[.bool b7, .slice A5 n5 c5] (by simp)).set_at 1 (.slice A7 n7 c7) #[.bool b7, .slice A7 n7 c7] (by simp))
 replace x1b := ((x1b.fr w.heap.size 0 (by omega) (.bool b7)).fr w.heap.size 1 (by omega) (.slice A7 n7 c7))
 replace x1c := ((x1c.fr w.heap.size 0 (by omega) (.bool b7)).fr w.heap.size 1 (by omega) (.slice A7 n7 c7))
 replace x4a := ((x4a.fr w.heap.size 0 (by omega) (.bool b7)).fr w.heap.size 1 (by omega) (.slice A7 n7 c7))
 have lw8 : w7.heap.size + 0 ≤ ((w7.setCell ⟨w.heap.size, 0, none⟩ (.bool b7)).setCell ⟨w.heap.size, 1, none⟩ (.slice A7 n7 c7)).heap.size := by simp
 generalize hE8 : ((w7.setCell ⟨w.heap.size, 0, none⟩ (.bool b7)).setCell ⟨w.heap.size, 1, none⟩ (.slice A7 n7 c7)) = w8 at p8 bw8 lw8 x1a x1b x1c x4a ⊢
 clear hE8
 replace h := h.keep p8
 replace h' := h'.keep p8
 replace h3 := h3.keep p8
 replace h5 := h5.keep p8
 replace h7 := h7.keep p8
 replace h'7 := h'7.keep p8
 clear bw7
 (with_reducible refine (i_div _ b' A' n' c' (z') (k') ?_ b3 A3 n3 c3 ((Nat.gcd ((z)).natAbs ((z')).natAbs : Nat)) ((k) + (k')) ?_  ?_ ?_).mono ?_); (exact h'); (exact h3.iz); (omega); (exact HG.out); rintro e w9 ⟨b9, A9, n9, c9, b'9, A'9, n'9, c'9, rfl, h9, h'9, q9⟩
 replace h := h.belw q9
 replace h' := h'.belw q9
 replace h3 := h3.belw q9
 replace h5 := h5.belw q9
 replace h7 := h7.belw q9
 replace h'7 := h'7.belw q9
 replace x1a := x1a.b q9
 replace x1b := x1b.b q9
 replace x1c := x1c.b q9
 replace x4a := x4a.b q9
 have bw9 := bw8.trans (q9.mono bw8.size)
 have lw9 := q9.size
 clear q9 bw8
 obtain ⟨cx1aa, cx1ab⟩ := x1a.c2
 obtain ⟨lx1aa, lx1ab, lx1ac, lx1ad⟩ := lts0 x1a.lt
 obtain ⟨cx1ba, cx1bb⟩ := x1b.c2
 obtain ⟨fx1ba, fx1bb⟩ := x1b.f2
 obtain ⟨lx1ba, lx1bb, lx1bc, lx1bd⟩ := lts1 x1b.lt
 obtain ⟨cx1ca, cx1cb, cx1cc⟩ := x1c.c3
 obtain ⟨fx1ca, fx1cb, fx1cc⟩ := x1c.f3
 obtain ⟨lx1ca, lx1cb, lx1cc, lx1cd⟩ := lts2 x1c.lt
 go_wp2_with fail
 refine bodyPost_ret (v := .agg #[.bool true, .slice A7 n7 c7, .slice A9 n9 c9]) (by simp [results, Tryz.results47, go_sem, *] <;> first | rfl | exact ⟨rfl, rfl⟩) rfl ?_
 obtain ⟨e1, e2, e3⟩ := form_neg HN.out HP.out HQ.out
 exact ⟨_, _, _, _, _, _, _, rfl, QV.mk_ (by rw [e1]; exact h7.2.1.keep ((((((Kp.refl w9).sb (w.heap.size + 1) 0 x1b.box (by decide) (.bool b9)).sb (w.heap.size + 1) 1 (x1b.box.set ⟨w.heap.size + 1, 0, none⟩ (.bool b9)) (by decide) (.slice A9 n9 c9)).sb (w.heap.size + 1 + 1) 0 ((x1c.box.set ⟨w.heap.size + 1, 0, none⟩ (.bool b9)).set ⟨w.heap.size + 1, 1, none⟩ (.slice A9 n9 c9)) (by decide) (.bool true)).sb (w.heap.size + 1 + 1) 1 (((x1c.box.set ⟨w.heap.size + 1, 0, none⟩ (.bool b9)).set ⟨w.heap.size + 1, 1, none⟩ (.slice A9 n9 c9)).set ⟨w.heap.size + 1 + 1, 0, none⟩ (.bool true)) (by decide) (.slice A7 n7 c7)).sb (w.heap.size + 1 + 1) 2 ((((x1c.box.set ⟨w.heap.size + 1, 0, none⟩ (.bool b9)).set ⟨w.heap.size + 1, 1, none⟩ (.slice A9 n9 c9)).set ⟨w.heap.size + 1 + 1, 0, none⟩ (.bool true)).set ⟨w.heap.size + 1 + 1, 1, none⟩ (.slice A7 n7 c7)) (by decide) (.slice A9 n9 c9))) (by rw [e2]; exact h9.2.1.keep ((((((Kp.refl w9).sb (w.heap.size + 1) 0 x1b.box (by decide) (.bool b9)).sb (w.heap.size + 1) 1 (x1b.box.set ⟨w.heap.size + 1, 0, none⟩ (.bool b9)) (by decide) (.slice A9 n9 c9)).sb (w.heap.size + 1 + 1) 0 ((x1c.box.set ⟨w.heap.size + 1, 0, none⟩ (.bool b9)).set ⟨w.heap.size + 1, 1, none⟩ (.slice A9 n9 c9)) (by decide) (.bool true)).sb (w.heap.size + 1 + 1) 1 (((x1c.box.set ⟨w.heap.size + 1, 0, none⟩ (.bool b9)).set ⟨w.heap.size + 1, 1, none⟩ (.slice A9 n9 c9)).set ⟨w.heap.size + 1 + 1, 0, none⟩ (.bool true)) (by decide) (.slice A7 n7 c7)).sb (w.heap.size + 1 + 1) 2 ((((x1c.box.set ⟨w.heap.size + 1, 0, none⟩ (.bool b9)).set ⟨w.heap.size + 1, 1, none⟩ (.slice A9 n9 c9)).set ⟨w.heap.size + 1 + 1, 0, none⟩ (.bool true)).set ⟨w.heap.size + 1 + 1, 1, none⟩ (.slice A7 n7 c7)) (by decide) (.slice A9 n9 c9))) e3 HS.out, (((((bw9.sc (w.heap.size + 1) 0 (by omega) (.bool b9)).sc (w.heap.size + 1) 1 (by omega) (.slice A9 n9 c9)).sc (w.heap.size + 1 + 1) 0 (by omega) (.bool true)).sc (w.heap.size + 1 + 1) 1 (by omega) (.slice A7 n7 c7)).sc (w.heap.size + 1 + 1) 2 (by omega) (.slice A9 n9 c9))⟩
theorem f_form_np (w : World) (b : Bool) (A : Option Addr) (n c : Nat) (z : Int) (k : Nat) (h : IZ w b A n c z k) (b' : Bool) (A' : Option Addr) (n' c' : Nat) (z' : Int) (k' : Nat) (h' : IZ w b' A' n' c' z' k') (q : Rat) (K : Nat) (hz : z.sign = 1) (hd : z'.sign = -1) (hq : Rat.divInt z z' = q) (hs : Sz q K) (hk : k + k' ≤ 300000000) :
  Calls Tryz.prog 47 #[.agg #[.bool b, .slice A n c], .agg #[.bool b', .slice A' n' c']] w (RetF w q K) := by
 have HZ := Lib.hid hz
 have HD := Lib.hid hd
 have HN := Lib.hid (show ((-z)).sign = -1 by rw [Int.sign_neg, hz] <;> rfl)
 have HP := Lib.hid (show 0 < (-z') by exact sign_neg_ hd)
 have HG := Lib.hid (show ((Nat.gcd ((-z)).natAbs ((-z')).natAbs : Nat) : Int) ≠ 0 from gcd_ne HP.out)
 have HQ := Lib.hid (show Rat.divInt (-z) (-z') = q by rw [divInt_neg_neg _ _ (sign_ne hd)]; exact hq)
 have HS := Lib.hid hs
 clear hz hd hq hs
 go_enter Tryz.func47, Tryz.ntmps47
 go_wp2_with fail
 (with_reducible refine (i_sign_e _ b A n c (z) (k) ?_ (1) ?_ ?_).mono ?_); (exact (h.belw ((((Below.refl _ _).alloc (Nat.le_refl _) _).alloc (by simp) _).alloc (by simp <;> omega) _))); (exact HZ.out); (omega); rintro e w1 ⟨rfl, hb1⟩
 have q1 := ((((Below.refl _ _).alloc (Nat.le_refl _) _).alloc (by simp) _).alloc (by simp <;> omega) _).trans (hb1.mono (by simp <;> omega))
 replace h := h.belw q1
 replace h' := h'.belw q1
 have x1a : Blk w1 w.heap.size 52 #[.bool b, .slice A n c] := (((blkAt _ _ _ (by simp)).alloc _).alloc _).below hb1 (by simp <;> omega)
 have x1b := ((blkAt _ _ _ (g := w.heap.size + 1) (by simp)).alloc _).below hb1 (by simp <;> omega)
 have x1c := (blkAt _ _ _ (g := w.heap.size + 1 + 1) (by simp)).below hb1 (by simp)
 have bw1 := (brefl w).trans (q1.mono (brefl w).size)
 have lw1 : w.heap.size + 3 ≤ w1.heap.size := by have := hb1.size; simp at this; omega
 clear q1
 obtain ⟨cx1ba, cx1bb⟩ := x1b.c2
 obtain ⟨lx1ba, lx1bb, lx1bc, lx1bd⟩ := lts1 x1b.lt
 go_wp2_with fail
 (with_reducible refine (i_sign_e _ b' A' n' c' (z') (k') ?_ (-1) ?_ ?_).mono ?_); (exact h'); (exact HD.out); (omega); rintro e w2 ⟨rfl, q2⟩
 clear cx1ba cx1bb lx1ba lx1bb lx1bc lx1bd
 replace h := h.belw q2
 replace h' := h'.belw q2
 replace x1a := x1a.b q2
 replace x1b := x1b.b q2
 replace x1c := x1c.b q2
 have bw2 := bw1.trans (q2.mono bw1.size)
 have lw2 := q2.size
 clear q2 bw1
 go_wp2_with fail
 obtain ⟨cx1aa, cx1ab⟩ := x1a.c2
 obtain ⟨cx1ba, cx1bb⟩ := x1b.c2
 go_cut [2] (fun s2 wx => s2 = .pointer (some ⟨w.heap.size, 0, none⟩) ∧ ∃ b8 A8 n8 c8 b9 A9 n9 c9, Blk wx w.heap.size 52 #[.bool b8, .slice A8 n8 c8] ∧ Blk wx (w.heap.size + 1) 52 #[.bool b9, .slice A9 n9 c9] ∧ Blk wx (w.heap.size + 1 + 1) 32 #[.bool false, .slice none 0 0, .slice none 0 0] ∧ IV wx b8 A8 n8 c8 (-z) k ∧ IV wx b9 A9 n9 c9 (-z') k' ∧ Below w.heap.size w wx ∧ w2.heap.size ≤ wx.heap.size)
 case first =>
  go_region_with (first
   | (go_at_call 19; (with_reducible refine (i_neg _ b A n c (z) (k) ?_ ?_).mono ?_); (exact h); (omega); rintro e w3 ⟨b4, A4, n4, c4, rfl, h4, hb4⟩; replace hb4 := bnext (below_drewN (brefl _) 1) hb4; replace h' := h'.belw hb4; have bw4 := bw2.trans (hb4.mono bw2.size); have lw4 := hb4.size; replace x1a := x1a.b hb4; replace x1b := x1b.b hb4; replace x1c := x1c.b hb4; obtain ⟨dx1_1_0, dx1_1_1⟩ := x1b.c2)
   | (go_at_call 19; (with_reducible refine (i_neg _ b' A' n' c' (z') (k') ?_ ?_).mono ?_); (exact h'); (omega); rintro e w4 ⟨b5, A5, n5, c5, rfl, h5, hb5⟩; replace h4 := h4.belw hb5; have bw5 := bw4.trans (hb5.mono bw4.size); have lw5 := hb5.size; replace x1a := x1a.b hb5; replace x1b := x1b.b hb5; replace x1c := x1c.b hb5; obtain ⟨ex1_0_0, ex1_0_1⟩ := x1a.c2; obtain ⟨fx1aa, fx1ab⟩ := x1a.f2; obtain ⟨ex1_1_0, ex1_1_1⟩ := x1b.c2; obtain ⟨fx1ba, fx1bb⟩ := x1b.f2))
  all_goals
   go_wp2_with fail
   go_meet
   have kp := (((((Kp.refl w4).sb w.heap.size 0 x1a.box (by decide) (.bool b4)).sb w.heap.size 1 (x1a.box.set ⟨w.heap.size, 0, none⟩ (.bool b4)) (by decide) (.slice A4 n4 c4)).sb (w.heap.size + 1) 0 ((x1b.box.set ⟨w.heap.size, 0, none⟩ (.bool b4)).set ⟨w.heap.size, 1, none⟩ (.slice A4 n4 c4)) (by decide) (.bool b5)).sb (w.heap.size + 1) 1 (((x1b.box.set ⟨w.heap.size, 0, none⟩ (.bool b4)).set ⟨w.heap.size, 1, none⟩ (.slice A4 n4 c4)).set ⟨w.heap.size + 1, 0, none⟩ (.bool b5)) (by decide) (.slice A5 n5 c5))
   exact ⟨rfl, b4, A4, n4, c4, b5, A5, n5, c5, ((((x1a.set_at 0 (.bool b4) #[.bool b4, .slice A n c] (by simp)).set_at 1 (.slice A4 n4 c4) #[.bool b4, .slice A4 n4 c4] (by simp)).fr (w.heap.size + 1) 0 (by omega) (.bool b5)).fr (w.heap.size + 1) 1 (by omega) (.slice A5 n5 c5)), ((((x1b.fr w.heap.size 0 (by omega) (.bool b4)).fr w.heap.size 1 (by omega) (.slice A4 n4 c4)).set_at 0 (.bool b5) #[.bool b5, .slice A' n' c'] (by simp)).set_at 1 (.slice A5 n5 c5) #[.bool b5, .slice A5 n5 c5] (by simp)), ((((x1c.fr w.heap.size 0 (by omega) (.bool b4)).fr w.heap.size 1 (by omega) (.slice A4 n4 c4)).fr (w.heap.size + 1) 0 (by omega) (.bool b5)).fr (w.heap.size + 1) 1 (by omega) (.slice A5 n5 c5)), h4.keep kp, h5.keep kp, ((((bw5.sc w.heap.size 0 (by omega) (.bool b4)).sc w.heap.size 1 (by omega) (.slice A4 n4 c4)).sc (w.heap.size + 1) 0 (by omega) (.bool b5)).sc (w.heap.size + 1) 1 (by omega) (.slice A5 n5 c5)), by simp [World.setCell]; omega⟩
 case rest =>
  clear h h'
  obtain ⟨rfl, b8, A8, n8, c8, b9, A9, n9, c9, y0, y1, y2, h8, h9, bwc, lwc⟩ := hcut
  clear x1a x1b x1c
  have cy0_0 : wc.cell? ⟨w.heap.size, 0, none⟩ = some (.bool b8) := y0.cell 0
  have cy0_1 : wc.cell? ⟨w.heap.size, 1, none⟩ = some (.slice A8 n8 c8) := y0.cell 1
  obtain ⟨ly0_0, ly0_1, ly0_2, ly0_3⟩ := lts0 y0.lt
  have cy1_0 : wc.cell? ⟨w.heap.size + 1, 0, none⟩ = some (.bool b9) := y1.cell 0
  have cy1_1 : wc.cell? ⟨w.heap.size + 1, 1, none⟩ = some (.slice A9 n9 c9) := y1.cell 1
  obtain ⟨ly1_0, ly1_1, ly1_2, ly1_3⟩ := lts1 y1.lt
  go_wp2_with fail
  (with_reducible refine (i_gcd _ b8 A8 n8 c8 (-z) (k) ?_ b9 A9 n9 c9 (-z') (k') ?_ ?_).mono ?_); (exact h8.iz); (exact h9.iz); (first | omega | decide | assumption); rintro e w13 ⟨b13, A13, n13, c13, rfl, h13, q13⟩
  clear cy0_0 cy0_1 ly0_0 ly0_1 ly0_2 ly0_3 cy1_0 cy1_1 ly1_0 ly1_1 ly1_2 ly1_3
  replace h8 := h8.belw q13
  replace h9 := h9.belw q13
  replace y0 := y0.b q13
  replace y1 := y1.b q13
  replace y2 := y2.b q13
  have bw13 := bwc.trans (q13.mono bwc.size)
  have lw13 := q13.size
  clear q13
  obtain ⟨cy0_0, cy0_1⟩ := y0.c2
  obtain ⟨ly0_0, ly0_1, ly0_2, ly0_3⟩ := lts0 y0.lt
  go_wp2_with fail
  (with_reducible refine (i_sign_e _ b8 A8 n8 c8 (-z) (k) ?_ (-1) ?_ ?_).mono ?_); (exact (h8.belw ((Below.refl _ _).alloc (Nat.le_refl _) _)).iz); (exact HN.out); (omega); rintro e w14 ⟨rfl, hb14⟩
  clear cy0_0 cy0_1 ly0_0 ly0_1 ly0_2 ly0_3
  have q14 := ((Below.refl _ _).alloc (Nat.le_refl _) _).trans (hb14.mono (by simp))
  replace h8 := h8.belw q14
  replace h9 := h9.belw q14
  replace h13 := h13.belw q14
  replace y0 := y0.b q14
  replace y1 := y1.b q14
  replace y2 := y2.b q14
  have x14a : Blk w14 w13.heap.size 52 #[.bool b13, .slice A13 n13 c13] := (blkAt _ _ _ (by simp)).below hb14 (by simp)
  have bw14 := bw13.trans (q14.mono bw13.size)
  have lw14 : w13.heap.size + 1 ≤ w14.heap.size := by have := hb14.size; simp at this; omega
  clear q14 bw13
  obtain ⟨cy0_0, cy0_1⟩ := y0.c2
  obtain ⟨ly0_0, ly0_1, ly0_2, ly0_3⟩ := lts0 y0.lt
  go_wp2_with fail
  (with_reducible refine (i_neg _ b8 A8 n8 c8 (-z) (k) ?_ ?_).mono ?_); (exact h8.iz); (first | omega | decide | assumption); rintro e w15 ⟨b15, A15, n15, c15, rfl, h15, q15⟩
  clear cy0_0 cy0_1 ly0_0 ly0_1 ly0_2 ly0_3
  replace h8 := h8.belw q15
  replace h9 := h9.belw q15
  replace h13 := h13.belw q15
  replace y0 := y0.b q15
  replace y1 := y1.b q15
  replace y2 := y2.b q15
  replace x14a := x14a.b q15
  have bw15 := bw14.trans (q15.mono bw14.size)
  have lw15 := q15.size
  clear q15 bw14
  obtain ⟨cy0_0, cy0_1⟩ := y0.c2
  obtain ⟨fy0_0, fy0_1⟩ := y0.f2
  obtain ⟨ly0_0, ly0_1, ly0_2, ly0_3⟩ := lts0 y0.lt
  obtain ⟨cx14aa, cx14ab⟩ := x14a.c2
  obtain ⟨lx14aa, lx14ab, lx14ac, lx14ad⟩ := lts0 x14a.lt
  go_wp2_with fail
  clear cy0_0 fy0_0 cy0_1 fy0_1 ly0_0 ly0_1 ly0_2 ly0_3 cx14aa cx14ab lx14aa lx14ab lx14ac lx14ad
  have p16 := (((Kp.refl w15).sb w.heap.size 0 y0.box (by decide) (.bool b15)).sb w.heap.size 1 (y0.box.set ⟨w.heap.size, 0, none⟩ (.bool b15)) (by decide) (.slice A15 n15 c15))
  have bw16 := ((bw15.sc w.heap.size 0 (by omega) (.bool b15)).sc w.heap.size 1 (by omega) (.slice A15 n15 c15))
  replace y0 : Blk ((w15.setCell ⟨w.heap.size, 0, none⟩ (.bool b15)).setCell ⟨w.heap.size, 1, none⟩ (.slice A15 n15 c15)) w.heap.size 52 #[.bool b15, .slice A15 n15 c15] := ((y0.set_at 0 (.bool b15) #[.bool b15, .slice A8 n8 c8] (by simp)).set_at 1 (.slice A15 n15 c15) #[.bool b15, .slice A15 n15 c15] (by simp))
  replace y1 : Blk ((w15.setCell ⟨w.heap.size, 0, none⟩ (.bool b15)).setCell ⟨w.heap.size, 1, none⟩ (.slice A15 n15 c15)) (w.heap.size + 1) 52 #[.bool b9, .slice A9 n9 c9] := ((y1.fr w.heap.size 0 (by omega) (.bool b15)).fr w.heap.size 1 (by omega) (.slice A15 n15 c15))
  replace y2 : Blk ((w15.setCell ⟨w.heap.size, 0, none⟩ (.bool b15)).setCell ⟨w.heap.size, 1, none⟩ (.slice A15 n15 c15)) (w.heap.size + 1 + 1) 32 #[.bool false, .slice none 0 0, .slice none 0 0] := ((y2.fr w.heap.size 0 (by omega) (.bool b15)).fr w.heap.size 1 (by omega) (.slice A15 n15 c15))
  replace x14a := ((x14a.fr w.heap.size 0 (by omega) (.bool b15)).fr w.heap.size 1 (by omega) (.slice A15 n15 c15))
  have lw16 : w15.heap.size + 0 ≤ ((w15.setCell ⟨w.heap.size, 0, none⟩ (.bool b15)).setCell ⟨w.heap.size, 1, none⟩ (.slice A15 n15 c15)).heap.size := by simp
  generalize hE16 : ((w15.setCell ⟨w.heap.size, 0, none⟩ (.bool b15)).setCell ⟨w.heap.size, 1, none⟩ (.slice A15 n15 c15)) = w16 at p16 bw16 lw16 y0 y1 y2 x14a ⊢
  clear hE16
  replace h8 := h8.keep p16
  replace h9 := h9.keep p16
  replace h13 := h13.keep p16
  replace h15 := h15.keep p16
  clear bw15
  (with_reducible refine (i_div _ b15 A15 n15 c15 (-(-z)) ((k)) ?_ b13 A13 n13 c13 ((Nat.gcd ((-z)).natAbs ((-z')).natAbs : Nat)) ((k) + (k')) ?_  ?_ ?_).mono ?_); (exact h15.iz); (exact h13.iz); (omega); (exact HG.out); rintro e w17 ⟨b17, A17, n17, c17, b'17, A'17, n'17, c'17, rfl, h17, h'17, q17⟩
  replace h8 := h8.belw q17
  replace h9 := h9.belw q17
  replace h13 := h13.belw q17
  replace h15 := h15.belw q17
  replace y0 := y0.b q17
  replace y1 := y1.b q17
  replace y2 := y2.b q17
  replace x14a := x14a.b q17
  have bw17 := bw16.trans (q17.mono bw16.size)
  have lw17 := q17.size
  clear q17 bw16
  obtain ⟨cy0_0, cy0_1⟩ := y0.c2
  obtain ⟨fy0_0, fy0_1⟩ := y0.f2
  obtain ⟨ly0_0, ly0_1, ly0_2, ly0_3⟩ := lts0 y0.lt
  obtain ⟨cy1_0, cy1_1⟩ := y1.c2
  obtain ⟨ly1_0, ly1_1, ly1_2, ly1_3⟩ := lts1 y1.lt
  obtain ⟨cx14aa, cx14ab⟩ := x14a.c2
  obtain ⟨lx14aa, lx14ab, lx14ac, lx14ad⟩ := lts0 x14a.lt
  go_wp2_with fail
  clear cy0_0 fy0_0 cy0_1 fy0_1 ly0_0 ly0_1 ly0_2 ly0_3 cy1_0 cy1_1 ly1_0 ly1_1 ly1_2 ly1_3 cx14aa cx14ab lx14aa lx14ab lx14ac lx14ad
  have p18 := (((Kp.refl w17).sb w.heap.size 0 y0.box (by decide) (.bool b17)).sb w.heap.size 1 (y0.box.set ⟨w.heap.size, 0, none⟩ (.bool b17)) (by decide) (.slice A17 n17 c17))
  have bw18 := ((bw17.sc w.heap.size 0 (by omega) (.bool b17)).sc w.heap.size 1 (by omega) (.slice A17 n17 c17))
  replace y0 : Blk ((w17.setCell ⟨w.heap.size, 0, none⟩ (.bool b17)).setCell ⟨w.heap.size, 1, none⟩ (.slice A17 n17 c17)) w.heap.size 52 #[.bool b17, .slice A17 n17 c17] := ((y0.set_at 0 (.bool b17) #[.bool b17, .slice A15 n15 c15] (by simp)).set_at 1 (.slice A17 n17 c17) #[.bool b17, .slice A17 n17 c17] (by simp))
  replace y1 : Blk ((w17.setCell ⟨w.heap.size, 0, none⟩ (.bool b17)).setCell ⟨w.heap.size, 1, none⟩ (.slice A17 n17 c17)) (w.heap.size + 1) 52 #[.bool b9, .slice A9 n9 c9] := ((y1.fr w.heap.size 0 (by omega) (.bool b17)).fr w.heap.size 1 (by omega) (.slice A17 n17 c17))
  replace y2 : Blk ((w17.setCell ⟨w.heap.size, 0, none⟩ (.bool b17)).setCell ⟨w.heap.size, 1, none⟩ (.slice A17 n17 c17)) (w.heap.size + 1 + 1) 32 #[.bool false, .slice none 0 0, .slice none 0 0] := ((y2.fr w.heap.size 0 (by omega) (.bool b17)).fr w.heap.size 1 (by omega) (.slice A17 n17 c17))
  replace x14a := ((x14a.fr w.heap.size 0 (by omega) (.bool b17)).fr w.heap.size 1 (by omega) (.slice A17 n17 c17))
  have lw18 : w17.heap.size + 0 ≤ ((w17.setCell ⟨w.heap.size, 0, none⟩ (.bool b17)).setCell ⟨w.heap.size, 1, none⟩ (.slice A17 n17 c17)).heap.size := by simp
  generalize hE18 : ((w17.setCell ⟨w.heap.size, 0, none⟩ (.bool b17)).setCell ⟨w.heap.size, 1, none⟩ (.slice A17 n17 c17)) = w18 at p18 bw18 lw18 y0 y1 y2 x14a ⊢
  clear hE18
  replace h8 := h8.keep p18
  replace h9 := h9.keep p18
  replace h13 := h13.keep p18
  replace h15 := h15.keep p18
  replace h17 := h17.keep p18
  replace h'17 := h'17.keep p18
  clear bw17
  (with_reducible refine (i_div _ b9 A9 n9 c9 (-z') (k') ?_ b13 A13 n13 c13 ((Nat.gcd ((-z)).natAbs ((-z')).natAbs : Nat)) ((k) + (k')) ?_  ?_ ?_).mono ?_); (exact h9.iz); (exact h13.iz); (omega); (exact HG.out); rintro e w19 ⟨b19, A19, n19, c19, b'19, A'19, n'19, c'19, rfl, h19, h'19, q19⟩
  replace h8 := h8.belw q19
  replace h9 := h9.belw q19
  replace h13 := h13.belw q19
  replace h15 := h15.belw q19
  replace h17 := h17.belw q19
  replace h'17 := h'17.belw q19
  replace y0 := y0.b q19
  replace y1 := y1.b q19
  replace y2 := y2.b q19
  replace x14a := x14a.b q19
  have bw19 := bw18.trans (q19.mono bw18.size)
  have lw19 := q19.size
  clear q19 bw18
  obtain ⟨cy0_0, cy0_1⟩ := y0.c2
  obtain ⟨ly0_0, ly0_1, ly0_2, ly0_3⟩ := lts0 y0.lt
  obtain ⟨cy1_0, cy1_1⟩ := y1.c2
  obtain ⟨fy1_0, fy1_1⟩ := y1.f2
  obtain ⟨ly1_0, ly1_1, ly1_2, ly1_3⟩ := lts1 y1.lt
  obtain ⟨cy2_0, cy2_1, cy2_2⟩ := y2.c3
  obtain ⟨fy2_0, fy2_1, fy2_2⟩ := y2.f3
  obtain ⟨ly2_0, ly2_1, ly2_2, ly2_3⟩ := lts2 y2.lt
  go_wp2_with fail
  refine bodyPost_ret (v := .agg #[.bool true, .slice A17 n17 c17, .slice A19 n19 c19]) (by simp [results, Tryz.results47, go_sem, *] <;> first | rfl | exact ⟨rfl, rfl⟩) rfl ?_
  obtain ⟨e1, e2, e3⟩ := form_neg HN.out HP.out HQ.out
  exact ⟨_, _, _, _, _, _, _, rfl, QV.mk_ (by rw [e1]; exact h17.2.1.keep ((((((Kp.refl w19).sb (w.heap.size + 1) 0 y1.box (by decide) (.bool b19)).sb (w.heap.size + 1) 1 (y1.box.set ⟨w.heap.size + 1, 0, none⟩ (.bool b19)) (by decide) (.slice A19 n19 c19)).sb (w.heap.size + 1 + 1) 0 ((y2.box.set ⟨w.heap.size + 1, 0, none⟩ (.bool b19)).set ⟨w.heap.size + 1, 1, none⟩ (.slice A19 n19 c19)) (by decide) (.bool true)).sb (w.heap.size + 1 + 1) 1 (((y2.box.set ⟨w.heap.size + 1, 0, none⟩ (.bool b19)).set ⟨w.heap.size + 1, 1, none⟩ (.slice A19 n19 c19)).set ⟨w.heap.size + 1 + 1, 0, none⟩ (.bool true)) (by decide) (.slice A17 n17 c17)).sb (w.heap.size + 1 + 1) 2 ((((y2.box.set ⟨w.heap.size + 1, 0, none⟩ (.bool b19)).set ⟨w.heap.size + 1, 1, none⟩ (.slice A19 n19 c19)).set ⟨w.heap.size + 1 + 1, 0, none⟩ (.bool true)).set ⟨w.heap.size + 1 + 1, 1, none⟩ (.slice A17 n17 c17)) (by decide) (.slice A19 n19 c19))) (by rw [e2]; exact h19.2.1.keep ((((((Kp.refl w19).sb (w.heap.size + 1) 0 y1.box (by decide) (.bool b19)).sb (w.heap.size + 1) 1 (y1.box.set ⟨w.heap.size + 1, 0, none⟩ (.bool b19)) (by decide) (.slice A19 n19 c19)).sb (w.heap.size + 1 + 1) 0 ((y2.box.set ⟨w.heap.size + 1, 0, none⟩ (.bool b19)).set ⟨w.heap.size + 1, 1, none⟩ (.slice A19 n19 c19)) (by decide) (.bool true)).sb (w.heap.size + 1 + 1) 1 (((y2.box.set ⟨w.heap.size + 1, 0, none⟩ (.bool b19)).set ⟨w.heap.size + 1, 1, none⟩ (.slice A19 n19 c19)).set ⟨w.heap.size + 1 + 1, 0, none⟩ (.bool true)) (by decide) (.slice A17 n17 c17)).sb (w.heap.size + 1 + 1) 2 ((((y2.box.set ⟨w.heap.size + 1, 0, none⟩ (.bool b19)).set ⟨w.heap.size + 1, 1, none⟩ (.slice A19 n19 c19)).set ⟨w.heap.size + 1 + 1, 0, none⟩ (.bool true)).set ⟨w.heap.size + 1 + 1, 1, none⟩ (.slice A17 n17 c17)) (by decide) (.slice A19 n19 c19))) e3 HS.out, (((((bw19.sc (w.heap.size + 1) 0 (by omega) (.bool b19)).sc (w.heap.size + 1) 1 (by omega) (.slice A19 n19 c19)).sc (w.heap.size + 1 + 1) 0 (by omega) (.bool true)).sc (w.heap.size + 1 + 1) 1 (by omega) (.slice A17 n17 c17)).sc (w.heap.size + 1 + 1) 2 (by omega) (.slice A19 n19 c19))⟩
theorem f_form_nn (w : World) (b : Bool) (A : Option Addr) (n c : Nat) (z : Int) (k : Nat) (h : IZ w b A n c z k) (b' : Bool) (A' : Option Addr) (n' c' : Nat) (z' : Int) (k' : Nat) (h' : IZ w b' A' n' c' z' k') (q : Rat) (K : Nat) (hz : z.sign = -1) (hd : z'.sign = -1) (hq : Rat.divInt z z' = q) (hs : Sz q K) (hk : k + k' ≤ 300000000) :
  Calls Tryz.prog 47 #[.agg #[.bool b, .slice A n c], .agg #[.bool b', .slice A' n' c']] w (RetF w q K) := by
 have HZ := Lib.hid hz
 have HD := Lib.hid hd
 have HN := Lib.hid (show ((-z)).sign = 1 by rw [Int.sign_neg, hz] <;> rfl)
 have HP := Lib.hid (show 0 < (-z') by exact sign_neg_ hd)
 have HG := Lib.hid (show ((Nat.gcd ((-z)).natAbs ((-z')).natAbs : Nat) : Int) ≠ 0 from gcd_ne HP.out)
 have HQ := Lib.hid (show Rat.divInt (-z) (-z') = q by rw [divInt_neg_neg _ _ (sign_ne hd)]; exact hq)
 have HS := Lib.hid hs
 clear hz hd hq hs
 go_enter Tryz.func47, Tryz.ntmps47
 go_wp2_with fail
 (with_reducible refine (i_sign_e _ b A n c (z) (k) ?_ (-1) ?_ ?_).mono ?_); (exact (h.belw ((((Below.refl _ _).alloc (Nat.le_refl _) _).alloc (by simp) _).alloc (by simp <;> omega) _))); (exact HZ.out); (omega); rintro e w1 ⟨rfl, hb1⟩
 have q1 := ((((Below.refl _ _).alloc (Nat.le_refl _) _).alloc (by simp) _).alloc (by simp <;> omega) _).trans (hb1.mono (by simp <;> omega))
 replace h := h.belw q1
 replace h' := h'.belw q1
 have x1a : Blk w1 w.heap.size 52 #[.bool b, .slice A n c] := (((blkAt _ _ _ (by simp)).alloc _).alloc _).below hb1 (by simp <;> omega)
 have x1b := ((blkAt _ _ _ (g := w.heap.size + 1) (by simp)).alloc _).below hb1 (by simp <;> omega)
 have x1c := (blkAt _ _ _ (g := w.heap.size + 1 + 1) (by simp)).below hb1 (by simp)
 have bw1 := (brefl w).trans (q1.mono (brefl w).size)
 have lw1 : w.heap.size + 3 ≤ w1.heap.size := by have := hb1.size; simp at this; omega
 clear q1
 obtain ⟨cx1ba, cx1bb⟩ := x1b.c2
 obtain ⟨lx1ba, lx1bb, lx1bc, lx1bd⟩ := lts1 x1b.lt
 go_wp2_with fail
 (with_reducible refine (i_sign_e _ b' A' n' c' (z') (k') ?_ (-1) ?_ ?_).mono ?_); (exact h'); (exact HD.out); (omega); rintro e w2 ⟨rfl, q2⟩
 clear cx1ba cx1bb lx1ba lx1bb lx1bc lx1bd
 replace h := h.belw q2
 replace h' := h'.belw q2
 replace x1a := x1a.b q2
 replace x1b := x1b.b q2
 replace x1c := x1c.b q2
 have bw2 := bw1.trans (q2.mono bw1.size)
 have lw2 := q2.size
 clear q2 bw1
 go_wp2_with fail
 obtain ⟨cx1aa, cx1ab⟩ := x1a.c2
 obtain ⟨cx1ba, cx1bb⟩ := x1b.c2
 go_cut [2] (fun s2 wx => s2 = .pointer (some ⟨w.heap.size, 0, none⟩) ∧ ∃ b8 A8 n8 c8 b9 A9 n9 c9, Blk wx w.heap.size 52 #[.bool b8, .slice A8 n8 c8] ∧ Blk wx (w.heap.size + 1) 52 #[.bool b9, .slice A9 n9 c9] ∧ Blk wx (w.heap.size + 1 + 1) 32 #[.bool false, .slice none 0 0, .slice none 0 0] ∧ IV wx b8 A8 n8 c8 (-z) k ∧ IV wx b9 A9 n9 c9 (-z') k' ∧ Below w.heap.size w wx ∧ w2.heap.size ≤ wx.heap.size)
 case first =>
  go_region_with (first
   | (go_at_call 19; (with_reducible refine (i_neg _ b A n c (z) (k) ?_ ?_).mono ?_); (exact h); (omega); rintro e w3 ⟨b4, A4, n4, c4, rfl, h4, hb4⟩; replace hb4 := bnext (below_drewN (brefl _) 1) hb4; replace h' := h'.belw hb4; have bw4 := bw2.trans (hb4.mono bw2.size); have lw4 := hb4.size; replace x1a := x1a.b hb4; replace x1b := x1b.b hb4; replace x1c := x1c.b hb4; obtain ⟨dx1_1_0, dx1_1_1⟩ := x1b.c2)
   | (go_at_call 19; (with_reducible refine (i_neg _ b' A' n' c' (z') (k') ?_ ?_).mono ?_); (exact h'); (omega); rintro e w4 ⟨b5, A5, n5, c5, rfl, h5, hb5⟩; replace h4 := h4.belw hb5; have bw5 := bw4.trans (hb5.mono bw4.size); have lw5 := hb5.size; replace x1a := x1a.b hb5; replace x1b := x1b.b hb5; replace x1c := x1c.b hb5; obtain ⟨ex1_0_0, ex1_0_1⟩ := x1a.c2; obtain ⟨fx1aa, fx1ab⟩ := x1a.f2; obtain ⟨ex1_1_0, ex1_1_1⟩ := x1b.c2; obtain ⟨fx1ba, fx1bb⟩ := x1b.f2))
  all_goals
   go_wp2_with fail
   go_meet
   have kp := (((((Kp.refl w4).sb w.heap.size 0 x1a.box (by decide) (.bool b4)).sb w.heap.size 1 (x1a.box.set ⟨w.heap.size, 0, none⟩ (.bool b4)) (by decide) (.slice A4 n4 c4)).sb (w.heap.size + 1) 0 ((x1b.box.set ⟨w.heap.size, 0, none⟩ (.bool b4)).set ⟨w.heap.size, 1, none⟩ (.slice A4 n4 c4)) (by decide) (.bool b5)).sb (w.heap.size + 1) 1 (((x1b.box.set ⟨w.heap.size, 0, none⟩ (.bool b4)).set ⟨w.heap.size, 1, none⟩ (.slice A4 n4 c4)).set ⟨w.heap.size + 1, 0, none⟩ (.bool b5)) (by decide) (.slice A5 n5 c5))
   exact ⟨rfl, b4, A4, n4, c4, b5, A5, n5, c5, ((((x1a.set_at 0 (.bool b4) #[.bool b4, .slice A n c] (by simp)).set_at 1 (.slice A4 n4 c4) #[.bool b4, .slice A4 n4 c4] (by simp)).fr (w.heap.size + 1) 0 (by omega) (.bool b5)).fr (w.heap.size + 1) 1 (by omega) (.slice A5 n5 c5)), ((((x1b.fr w.heap.size 0 (by omega) (.bool b4)).fr w.heap.size 1 (by omega) (.slice A4 n4 c4)).set_at 0 (.bool b5) #[.bool b5, .slice A' n' c'] (by simp)).set_at 1 (.slice A5 n5 c5) #[.bool b5, .slice A5 n5 c5] (by simp)), ((((x1c.fr w.heap.size 0 (by omega) (.bool b4)).fr w.heap.size 1 (by omega) (.slice A4 n4 c4)).fr (w.heap.size + 1) 0 (by omega) (.bool b5)).fr (w.heap.size + 1) 1 (by omega) (.slice A5 n5 c5)), h4.keep kp, h5.keep kp, ((((bw5.sc w.heap.size 0 (by omega) (.bool b4)).sc w.heap.size 1 (by omega) (.slice A4 n4 c4)).sc (w.heap.size + 1) 0 (by omega) (.bool b5)).sc (w.heap.size + 1) 1 (by omega) (.slice A5 n5 c5)), by simp [World.setCell]; omega⟩
 case rest =>
  clear h h'
  obtain ⟨rfl, b8, A8, n8, c8, b9, A9, n9, c9, y0, y1, y2, h8, h9, bwc, lwc⟩ := hcut
  clear x1a x1b x1c
  obtain ⟨cy0_0, cy0_1⟩ := y0.c2
  obtain ⟨ly0_0, ly0_1, ly0_2, ly0_3⟩ := lts0 y0.lt
  obtain ⟨cy1_0, cy1_1⟩ := y1.c2
  obtain ⟨ly1_0, ly1_1, ly1_2, ly1_3⟩ := lts1 y1.lt
  go_wp2_with fail
  (with_reducible refine (i_gcd _ b8 A8 n8 c8 (-z) (k) ?_ b9 A9 n9 c9 (-z') (k') ?_ ?_).mono ?_); (exact h8.iz); (exact h9.iz); (first | omega | decide | assumption); rintro e w13 ⟨b13, A13, n13, c13, rfl, h13, q13⟩
  clear cy0_0 cy0_1 ly0_0 ly0_1 ly0_2 ly0_3 cy1_0 cy1_1 ly1_0 ly1_1 ly1_2 ly1_3
  replace h8 := h8.belw q13
  replace h9 := h9.belw q13
  replace y0 := y0.b q13
  replace y1 := y1.b q13
  replace y2 := y2.b q13
  have bw13 := bwc.trans (q13.mono bwc.size)
  have lw13 := q13.size
  clear q13
  obtain ⟨cy0_0, cy0_1⟩ := y0.c2
  obtain ⟨ly0_0, ly0_1, ly0_2, ly0_3⟩ := lts0 y0.lt
  go_wp2_with fail
  (with_reducible refine (i_sign_e _ b8 A8 n8 c8 (-z) (k) ?_ (1) ?_ ?_).mono ?_); (exact (h8.belw ((Below.refl _ _).alloc (Nat.le_refl _) _)).iz); (exact HN.out); (omega); rintro e w14 ⟨rfl, hb14⟩
  clear cy0_0 cy0_1 ly0_0 ly0_1 ly0_2 ly0_3
  have q14 := ((Below.refl _ _).alloc (Nat.le_refl _) _).trans (hb14.mono (by simp))
  replace h8 := h8.belw q14
  replace h9 := h9.belw q14
  replace h13 := h13.belw q14
  replace y0 := y0.b q14
  replace y1 := y1.b q14
  replace y2 := y2.b q14
  have x14a : Blk w14 w13.heap.size 52 #[.bool b13, .slice A13 n13 c13] := (blkAt _ _ _ (by simp)).below hb14 (by simp)
  have bw14 := bw13.trans (q14.mono bw13.size)
  have lw14 : w13.heap.size + 1 ≤ w14.heap.size := by have := hb14.size; simp at this; omega
  clear q14 bw13
  obtain ⟨cy0_0, cy0_1⟩ := y0.c2
  obtain ⟨ly0_0, ly0_1, ly0_2, ly0_3⟩ := lts0 y0.lt
  obtain ⟨cx14aa, cx14ab⟩ := x14a.c2
  obtain ⟨lx14aa, lx14ab, lx14ac, lx14ad⟩ := lts0 x14a.lt
  go_wp2_with fail
  (with_reducible refine (i_div _ b8 A8 n8 c8 (-z) (k) ?_ b13 A13 n13 c13 ((Nat.gcd ((-z)).natAbs ((-z')).natAbs : Nat)) ((k) + (k')) ?_  ?_ ?_).mono ?_); (exact h8.iz); (exact h13.iz); (omega); (exact HG.out); rintro e w15 ⟨b15, A15, n15, c15, b'15, A'15, n'15, c'15, rfl, h15, h'15, q15⟩
  clear cy0_0 cy0_1 ly0_0 ly0_1 ly0_2 ly0_3 cx14aa cx14ab lx14aa lx14ab lx14ac lx14ad
  replace h8 := h8.belw q15
  replace h9 := h9.belw q15
  replace h13 := h13.belw q15
  replace y0 := y0.b q15
  replace y1 := y1.b q15
  replace y2 := y2.b q15
  replace x14a := x14a.b q15
  have bw15 := bw14.trans (q15.mono bw14.size)
  have lw15 := q15.size
  clear q15 bw14
  obtain ⟨cy0_0, cy0_1⟩ := y0.c2
  obtain ⟨fy0_0, fy0_1⟩ := y0.f2
  obtain ⟨ly0_0, ly0_1, ly0_2, ly0_3⟩ := lts0 y0.lt
  obtain ⟨cy1_0, cy1_1⟩ := y1.c2
  obtain ⟨ly1_0, ly1_1, ly1_2, ly1_3⟩ := lts1 y1.lt
  obtain ⟨cx14aa, cx14ab⟩ := x14a.c2
  obtain ⟨lx14aa, lx14ab, lx14ac, lx14ad⟩ := lts0 x14a.lt
  go_wp2_with fail
  clear cy0_0 fy0_0 cy0_1 fy0_1 ly0_0 ly0_1 ly0_2 ly0_3 cy1_0 cy1_1 ly1_0 ly1_1 ly1_2 ly1_3 cx14aa cx14ab lx14aa lx14ab lx14ac lx14ad
  have p16 := (((Kp.refl w15).sb w.heap.size 0 y0.box (by decide) (.bool b15)).sb w.heap.size 1 (y0.box.set ⟨w.heap.size, 0, none⟩ (.bool b15)) (by decide) (.slice A15 n15 c15))
  have bw16 := ((bw15.sc w.heap.size 0 (by omega) (.bool b15)).sc w.heap.size 1 (by omega) (.slice A15 n15 c15))
  replace y0 : Blk ((w15.setCell ⟨w.heap.size, 0, none⟩ (.bool b15)).setCell ⟨w.heap.size, 1, none⟩ (.slice A15 n15 c15)) w.heap.size 52 #[.bool b15, .slice A15 n15 c15] := ((y0.set_at 0 (.bool b15) #[.bool b15, .slice A8 n8 c8] (by simp)).set_at 1 (.slice A15 n15 c15) #[.bool b15, .slice A15 n15 c15] (by simp))
  replace y1 : Blk ((w15.setCell ⟨w.heap.size, 0, none⟩ (.bool b15)).setCell ⟨w.heap.size, 1, none⟩ (.slice A15 n15 c15)) (w.heap.size + 1) 52 #[.bool b9, .slice A9 n9 c9] := ((y1.fr w.heap.size 0 (by omega) (.bool b15)).fr w.heap.size 1 (by omega) (.slice A15 n15 c15))
  replace y2 : Blk ((w15.setCell ⟨w.heap.size, 0, none⟩ (.bool b15)).setCell ⟨w.heap.size, 1, none⟩ (.slice A15 n15 c15)) (w.heap.size + 1 + 1) 32 #[.bool false, .slice none 0 0, .slice none 0 0] := ((y2.fr w.heap.size 0 (by omega) (.bool b15)).fr w.heap.size 1 (by omega) (.slice A15 n15 c15))
  replace x14a := ((x14a.fr w.heap.size 0 (by omega) (.bool b15)).fr w.heap.size 1 (by omega) (.slice A15 n15 c15))
  have lw16 : w15.heap.size + 0 ≤ ((w15.setCell ⟨w.heap.size, 0, none⟩ (.bool b15)).setCell ⟨w.heap.size, 1, none⟩ (.slice A15 n15 c15)).heap.size := by simp
  generalize hE16 : ((w15.setCell ⟨w.heap.size, 0, none⟩ (.bool b15)).setCell ⟨w.heap.size, 1, none⟩ (.slice A15 n15 c15)) = w16 at p16 bw16 lw16 y0 y1 y2 x14a ⊢
  clear hE16
  replace h8 := h8.keep p16
  replace h9 := h9.keep p16
  replace h13 := h13.keep p16
  replace h15 := h15.keep p16
  replace h'15 := h'15.keep p16
  clear bw15
  (with_reducible refine (i_div _ b9 A9 n9 c9 (-z') (k') ?_ b13 A13 n13 c13 ((Nat.gcd ((-z)).natAbs ((-z')).natAbs : Nat)) ((k) + (k')) ?_  ?_ ?_).mono ?_); (exact h9.iz); (exact h13.iz); (omega); (exact HG.out); rintro e w17 ⟨b17, A17, n17, c17, b'17, A'17, n'17, c'17, rfl, h17, h'17, q17⟩
  replace h8 := h8.belw q17
  replace h9 := h9.belw q17
  replace h13 := h13.belw q17
  replace h15 := h15.belw q17
  replace h'15 := h'15.belw q17
  replace y0 := y0.b q17
  replace y1 := y1.b q17
  replace y2 := y2.b q17
  replace x14a := x14a.b q17
  have bw17 := bw16.trans (q17.mono bw16.size)
  have lw17 := q17.size
  clear q17 bw16
  obtain ⟨cy0_0, cy0_1⟩ := y0.c2
  obtain ⟨ly0_0, ly0_1, ly0_2, ly0_3⟩ := lts0 y0.lt
  obtain ⟨cy1_0, cy1_1⟩ := y1.c2
  obtain ⟨fy1_0, fy1_1⟩ := y1.f2
  obtain ⟨ly1_0, ly1_1, ly1_2, ly1_3⟩ := lts1 y1.lt
  obtain ⟨cy2_0, cy2_1, cy2_2⟩ := y2.c3
  obtain ⟨fy2_0, fy2_1, fy2_2⟩ := y2.f3
  obtain ⟨ly2_0, ly2_1, ly2_2, ly2_3⟩ := lts2 y2.lt
  go_wp2_with fail
  refine bodyPost_ret (v := .agg #[.bool false, .slice A15 n15 c15, .slice A17 n17 c17]) (by simp [results, Tryz.results47, go_sem, *] <;> first | rfl | exact ⟨rfl, rfl⟩) rfl ?_
  obtain ⟨e1, e2, e3⟩ := form_pos HN.out HP.out HQ.out
  exact ⟨_, _, _, _, _, _, _, rfl, QV.mk_ (by rw [e1]; exact h15.2.1.keep ((((((Kp.refl w17).sb (w.heap.size + 1) 0 y1.box (by decide) (.bool b17)).sb (w.heap.size + 1) 1 (y1.box.set ⟨w.heap.size + 1, 0, none⟩ (.bool b17)) (by decide) (.slice A17 n17 c17)).sb (w.heap.size + 1 + 1) 0 ((y2.box.set ⟨w.heap.size + 1, 0, none⟩ (.bool b17)).set ⟨w.heap.size + 1, 1, none⟩ (.slice A17 n17 c17)) (by decide) (.bool false)).sb (w.heap.size + 1 + 1) 1 (((y2.box.set ⟨w.heap.size + 1, 0, none⟩ (.bool b17)).set ⟨w.heap.size + 1, 1, none⟩ (.slice A17 n17 c17)).set ⟨w.heap.size + 1 + 1, 0, none⟩ (.bool false)) (by decide) (.slice A15 n15 c15)).sb (w.heap.size + 1 + 1) 2 ((((y2.box.set ⟨w.heap.size + 1, 0, none⟩ (.bool b17)).set ⟨w.heap.size + 1, 1, none⟩ (.slice A17 n17 c17)).set ⟨w.heap.size + 1 + 1, 0, none⟩ (.bool false)).set ⟨w.heap.size + 1 + 1, 1, none⟩ (.slice A15 n15 c15)) (by decide) (.slice A17 n17 c17))) (by rw [e2]; exact h17.2.1.keep ((((((Kp.refl w17).sb (w.heap.size + 1) 0 y1.box (by decide) (.bool b17)).sb (w.heap.size + 1) 1 (y1.box.set ⟨w.heap.size + 1, 0, none⟩ (.bool b17)) (by decide) (.slice A17 n17 c17)).sb (w.heap.size + 1 + 1) 0 ((y2.box.set ⟨w.heap.size + 1, 0, none⟩ (.bool b17)).set ⟨w.heap.size + 1, 1, none⟩ (.slice A17 n17 c17)) (by decide) (.bool false)).sb (w.heap.size + 1 + 1) 1 (((y2.box.set ⟨w.heap.size + 1, 0, none⟩ (.bool b17)).set ⟨w.heap.size + 1, 1, none⟩ (.slice A17 n17 c17)).set ⟨w.heap.size + 1 + 1, 0, none⟩ (.bool false)) (by decide) (.slice A15 n15 c15)).sb (w.heap.size + 1 + 1) 2 ((((y2.box.set ⟨w.heap.size + 1, 0, none⟩ (.bool b17)).set ⟨w.heap.size + 1, 1, none⟩ (.slice A17 n17 c17)).set ⟨w.heap.size + 1 + 1, 0, none⟩ (.bool false)).set ⟨w.heap.size + 1 + 1, 1, none⟩ (.slice A15 n15 c15)) (by decide) (.slice A17 n17 c17))) e3 HS.out, (((((bw17.sc (w.heap.size + 1) 0 (by omega) (.bool b17)).sc (w.heap.size + 1) 1 (by omega) (.slice A17 n17 c17)).sc (w.heap.size + 1 + 1) 0 (by omega) (.bool false)).sc (w.heap.size + 1 + 1) 1 (by omega) (.slice A15 n15 c15)).sc (w.heap.size + 1 + 1) 2 (by omega) (.slice A17 n17 c17))⟩
theorem f_form (w : World) (b : Bool) (A : Option Addr) (n c : Nat) (z : Int) (k : Nat) (h : IZ w b A n c z k) (b' : Bool) (A' : Option Addr) (n' c' : Nat) (z' : Int) (k' : Nat) (h' : IZ w b' A' n' c' z' k') (q : Rat) (K : Nat) (hd : z' ≠ 0) (hq : Rat.divInt z z' = q) (hs : Sz q K) (hk : k + k' ≤ 300000000) :
    Calls Tryz.prog 47 #[.agg #[.bool b, .slice A n c], .agg #[.bool b', .slice A' n' c']] w (RetF w q K) := by
  rcases sign3 z with s | s | s
  · rw [← hq, s, Rat.zero_divInt]; exact f_form_0 w b A n c z k h b' A' n' c' z' k' h' K s hk
  · rcases sign3 z' with t | t | t
    · exact absurd t hd
    · exact f_form_pp w b A n c z k h b' A' n' c' z' k' h' q K s t hq hs hk
    · exact f_form_np w b A n c z k h b' A' n' c' z' k' h' q K s t hq hs hk
  · rcases sign3 z' with t | t | t
    · exact absurd t hd
    · exact f_form_pn w b A n c z k h b' A' n' c' z' k' h' q K s t hq hs hk
    · exact f_form_nn w b A n c z k h b' A' n' c' z' k' h' q K s t hq hs hk
end Go.Proofs.YtjanfdkbficmbaaGreatDoor

/- Walks: fractions: the parts. -/
namespace Go.Proofs.YtjanfdkbficmbaaGreatDoor
open Go Go.RowKit Bn
attribute [local go_sem ↓] Go.wp_at_zero Go.wp_at_succ

section
variable {w : World} {b : Bool} {A : Option Addr} {n c : Nat} {D : Option Addr} {m e : Nat} {a : RD} {k : Nat}
end
abbrev SeesY (G g2 g3 : Nat) (v0 v1 : Value) (W0 W : World) : Prop := ((∀ b o, b < G → b ≠ g2 → b ≠ g3 → W.cell? ⟨b, o, none⟩ = W0.cell? ⟨b, o, none⟩) ∧ (∀ b o, b < G → W.frozen? ⟨b, o, none⟩ = W0.frozen? ⟨b, o, none⟩)) ∧ G ≤ W.heap.size ∧ W.cell? ⟨g2, 0, none⟩ = some v0 ∧ W.cell? ⟨g2, 1, none⟩ = some v1
theorem SeesY.of {G g2 g3 : Nat} {v0 v1 : Value} {W0 W : World} (h : G ≤ W0.heap.size) (hb : Below W0.heap.size W0 W) (hg : g2 < W0.heap.size) (h0 : W0.cell? ⟨g2, 0, none⟩ = some v0) (h1 : W0.cell? ⟨g2, 1, none⟩ = some v1) : SeesY G g2 g3 v0 v1 W0 W :=
  ⟨⟨fun b o hlt _ _ => (bcell hb).1 b o (Nat.lt_of_lt_of_le hlt h), fun b o hlt => (bcell hb).2 b o (Nat.lt_of_lt_of_le hlt h)⟩, Nat.le_trans h hb.size, ((bcell hb).1 _ _ hg).trans h0, ((bcell hb).1 _ _ hg).trans h1⟩
end Go.Proofs.YtjanfdkbficmbaaGreatDoor

/- Walks: fractions, sums and products. -/
namespace Go.Proofs.YtjanfdkbficmbaaGreatDoor
open Go Go.RowKit Bn
attribute [local go_sem ↓] Go.wp_at_zero Go.wp_at_succ
theorem f_from (w : World) (b : Bool) (A : Option Addr) (n c : Nat) (z : Int) (k : Nat) (h : IZ w b A n c z k) (b' : Bool) (A' : Option Addr) (n' c' : Nat) (z' : Int) (k' : Nat) (h' : IZ w b' A' n' c' z' k') (q : Rat) (K : Nat) (hd : z' ≠ 0) (hq : Rat.divInt z z' = q) (hs : Sz q K) (hk : k + k' ≤ 300000000) :
  Calls Tryz.prog 20 #[.agg #[.bool b, .slice A n c], .agg #[.bool b', .slice A' n' c']] w (RetFe w .nilIface q K) := by
 obtain ⟨s, hs1⟩ : ∃ s, z'.sign = s := ⟨_, rfl⟩
 have e0 : ((s : Int) == 0) = false := by simp; rintro rfl; exact hd (Int.sign_eq_zero_iff_zero.1 hs1)
 have HS1 := Lib.hid hs1
 have HD := Lib.hid hd
 have HQ := Lib.hid hq
 have HS := Lib.hid hs
 clear hs1 hd hq hs
 go_enter Tryz.func20, Tryz.ntmps20
 go_wp2_with fail
 (with_reducible refine (i_sign_e _ b' A' n' c' (z') (k') ?_ s ?_ ?_).mono ?_); (exact (h'.belw ((((Below.refl _ _).alloc (Nat.le_refl _) _).alloc (by simp) _).alloc (by simp <;> omega) _))); (exact HS1.out); (omega); rintro e w1 ⟨rfl, hb1⟩
 have q1 := ((((Below.refl _ _).alloc (Nat.le_refl _) _).alloc (by simp) _).alloc (by simp <;> omega) _).trans (hb1.mono (by simp <;> omega))
 replace h := h.belw q1
 replace h' := h'.belw q1
 have x1a : Blk w1 w.heap.size 52 #[.bool b, .slice A n c] := (((blkAt _ _ _ (by simp)).alloc _).alloc _).below hb1 (by simp <;> omega)
 have x1b := ((blkAt _ _ _ (g := w.heap.size + 1) (by simp)).alloc _).below hb1 (by simp <;> omega)
 have x1c := (blkAt _ _ _ (g := w.heap.size + 1 + 1) (by simp)).below hb1 (by simp)
 have bw1 := (brefl w).trans (q1.mono (brefl w).size)
 have lw1 : w.heap.size + 3 ≤ w1.heap.size := by have := hb1.size; simp at this; omega
 clear q1
 obtain ⟨cx1aa, cx1ab⟩ := x1a.c2
 obtain ⟨lx1aa, lx1ab, lx1ac, lx1ad⟩ := lts0 x1a.lt
 obtain ⟨cx1ba, cx1bb⟩ := x1b.c2
 obtain ⟨lx1ba, lx1bb, lx1bc, lx1bd⟩ := lts1 x1b.lt
 go_wp2_with fail
 (with_reducible refine (f_form _ b A n c (z) (k) ?_ b' A' n' c' (z') (k') ?_ q K ?_ ?_ ?_ ?_).mono ?_); (exact h); (exact h'); (exact HD.out); (exact HQ.out); (exact HS.out); (omega); rintro e w2 ⟨b2, A2, n2, c2, A'2, n'2, c'2, rfl, h2, q2⟩
 clear cx1aa cx1ab lx1aa lx1ab lx1ac lx1ad cx1ba cx1bb lx1ba lx1bb lx1bc lx1bd
 replace h := h.belw q2
 replace h' := h'.belw q2
 replace x1a := x1a.b q2
 replace x1b := x1b.b q2
 replace x1c := x1c.b q2
 have bw2 := bw1.trans (q2.mono bw1.size)
 have lw2 := q2.size
 clear q2 bw1
 obtain ⟨cx1ca, cx1cb, cx1cc⟩ := x1c.c3
 obtain ⟨fx1ca, fx1cb, fx1cc⟩ := x1c.f3
 obtain ⟨lx1ca, lx1cb, lx1cc, lx1cd⟩ := lts2 x1c.lt
 go_wp2_with fail
 refine bodyPost_ret (v := .tuple #[.agg #[.bool b2, .slice A2 n2 c2, .slice A'2 n'2 c'2], .nilIface]) (by simp [results, Tryz.results20, go_sem, *] <;> first | rfl | exact ⟨rfl, rfl⟩) rfl ?_
 exact ⟨b2, A2, n2, c2, A'2, n'2, c'2, rfl, h2.keep ((((Kp.refl w2).sb (w.heap.size + 1 + 1) 0 x1c.box (by decide) (.bool b2)).sb (w.heap.size + 1 + 1) 1 (x1c.box.set ⟨w.heap.size + 1 + 1, 0, none⟩ (.bool b2)) (by decide) (.slice A2 n2 c2)).sb (w.heap.size + 1 + 1) 2 ((x1c.box.set ⟨w.heap.size + 1 + 1, 0, none⟩ (.bool b2)).set ⟨w.heap.size + 1 + 1, 1, none⟩ (.slice A2 n2 c2)) (by decide) (.slice A'2 n'2 c'2)), (((bw2.sc (w.heap.size + 1 + 1) 0 (by omega) (.bool b2)).sc (w.heap.size + 1 + 1) 1 (by omega) (.slice A2 n2 c2)).sc (w.heap.size + 1 + 1) 2 (by omega) (.slice A'2 n'2 c'2))⟩
end Go.Proofs.YtjanfdkbficmbaaGreatDoor

/- Rotations with rational half-angle tangents, in plain fractions. -/
namespace Bn
structure TN where
  t : Rat
  h : Bool
deriving DecidableEq
def TN.ok (a : TN) : Prop := a.h = true → a.t = 0
/-! ### order -/
end Bn

/- Cells that are only read; turns as values. -/
namespace Go.Proofs.YtjanfdkbficmbaaGreatDoor
open Go Go.RowKit Bn
def Rd (w : World) (g : Nat) (cs : Array Value) : Prop := g < w.heap.size ∧ ∀ i, i < cs.size → w.cell? ⟨g, i, none⟩ = cs[i]?
section
variable {w w' : World} {g : Nat} {cs : Array Value}
theorem Rd.lt (h : Rd w g cs) : g < w.heap.size := h.1
theorem Rd.cell (h : Rd w g cs) (i : Nat) (hi : i < cs.size) : w.cell? ⟨g, i, none⟩ = cs[i]? := h.2 i hi
theorem Rd.below {B : Nat} (h : Rd w g cs) (hb : Below B w w') (hg : g < B) : Rd w' g cs := by
  refine ⟨?_, fun i hi => ?_⟩
  · have := hb.block g hg
    rcases Nat.lt_or_ge g w'.heap.size with h1 | h1
    · exact h1
    · rw [Array.getElem?_eq_none h1, Array.getElem?_eq_getElem h.1] at this; cases this
  · rw [← h.2 i hi]; unfold World.cell?; rw [hb.block g hg]
theorem Rd.alloc (h : Rd w g cs) (o : Obj) : Rd (w.alloc o) g cs := by
  refine ⟨by have := h.1; simp; omega, fun i hi => ?_⟩
  rw [← h.2 i hi]; unfold World.cell?; rw [Below.heap_alloc w o g h.1]
theorem Rd.far (h : Rd w g cs) {p : Addr} (hp : g ≠ p.block) (u : Value) : Rd (w.setCell p u) g cs := by
  refine ⟨by have := h.1; simp [World.setCell]; exact this, fun i hi => ?_⟩
  rw [← h.2 i hi]; unfold World.cell?; rw [Below.heap_setCell w p u g hp]
end
abbrev SeesB (G : Nat) (W0 W : World) : Prop := ((∀ b o, b < G → W.cell? ⟨b, o, none⟩ = W0.cell? ⟨b, o, none⟩) ∧ (∀ b o, b < G → W.frozen? ⟨b, o, none⟩ = W0.frozen? ⟨b, o, none⟩)) ∧ G ≤ W.heap.size
theorem SeesB.of {W0 W : World} (hb : Below W0.heap.size W0 W) : SeesB W0.heap.size W0 W := Sees.of (Nat.le_refl _) hb

abbrev SeesZ (G g g' : Nat) (W0 W : World) : Prop := ((∀ b o, b < G → b ≠ g → b ≠ g' → W.cell? ⟨b, o, none⟩ = W0.cell? ⟨b, o, none⟩) ∧ (∀ b o, b < G → W.frozen? ⟨b, o, none⟩ = W0.frozen? ⟨b, o, none⟩)) ∧ G ≤ W.heap.size
theorem SeesZ.of {G g g' : Nat} {W0 W : World} (h : G ≤ W0.heap.size) (hb : Below W0.heap.size W0 W) : SeesZ G g g' W0 W :=
  ⟨⟨fun b o hlt _ _ => (bcell hb).1 b o (Nat.lt_of_lt_of_le hlt h), fun b o hlt => (bcell hb).2 b o (Nat.lt_of_lt_of_le hlt h)⟩, Nat.le_trans h hb.size⟩
def QK (w : World) (b : Bool) (A : Option Addr) (n c : Nat) (D : Option Addr) (m e : Nat) (q : Rat) (k : Nat) : Prop := ∃ a, QD w b A n c D m e a k ∧ a.q = q ∧ a.ok = true
section
variable {w w' : World} {b x : Bool} {A D : Option Addr} {n c m e k j : Nat} {q : Rat} {t : TN}
theorem QV.qk (h : QV w b A n c D m e q k) : QK w b A n c D m e q k := ⟨_, h, rd_q q, rd_ok q⟩
theorem QK.belw (h : QK w b A n c D m e q k) (hb : Below w.heap.size w w') : QK w' b A n c D m e q k := by obtain ⟨a, h1, h2⟩ := h; exact ⟨a, h1.belw hb, h2⟩
theorem QK.keep (h : QK w b A n c D m e q k) (hb : Kp w w') : QK w' b A n c D m e q k := by obtain ⟨a, h1, h2⟩ := h; exact ⟨a, h1.keep hb, h2⟩
theorem QK.mono (h : QK w b A n c D m e q k) (hk : k ≤ j) : QK w b A n c D m e q j := by obtain ⟨a, h1, h2⟩ := h; exact ⟨a, h1.mono hk, h2⟩
def TK (w : World) (b : Bool) (A : Option Addr) (n c : Nat) (D : Option Addr) (m e : Nat) (x : Bool) (t : TN) (k : Nat) : Prop := QK w b A n c D m e t.t k ∧ x = t.h ∧ t.ok
def TV (w : World) (b : Bool) (A : Option Addr) (n c : Nat) (D : Option Addr) (m e : Nat) (x : Bool) (t : TN) (k : Nat) : Prop := QV w b A n c D m e t.t k ∧ x = t.h ∧ t.ok
theorem TV.tk (h : TV w b A n c D m e x t k) : TK w b A n c D m e x t k := ⟨h.1.qk, h.2⟩
theorem TK.belw (h : TK w b A n c D m e x t k) (hb : Below w.heap.size w w') : TK w' b A n c D m e x t k := ⟨h.1.belw hb, h.2⟩
theorem TK.keep (h : TK w b A n c D m e x t k) (hb : Kp w w') : TK w' b A n c D m e x t k := ⟨h.1.keep hb, h.2⟩
theorem TV.belw (h : TV w b A n c D m e x t k) (hb : Below w.heap.size w w') : TV w' b A n c D m e x t k := ⟨h.1.belw hb, h.2⟩
theorem TV.keep (h : TV w b A n c D m e x t k) (hb : Kp w w') : TV w' b A n c D m e x t k := ⟨h.1.keep hb, h.2⟩
theorem TK.mono (h : TK w b A n c D m e x t k) (hk : k ≤ j) : TK w b A n c D m e x t j := ⟨h.1.mono hk, h.2⟩
theorem TK.qk (h : TK w b A n c D m e x t k) : QK w b A n c D m e t.t k := h.1
theorem TV.qk (h : TV w b A n c D m e x t k) : QK w b A n c D m e t.t k := h.1.qk
theorem TV.mono (h : TV w b A n c D m e x t k) (hk : k ≤ j) : TV w b A n c D m e x t j := ⟨h.1.mono hk, h.2⟩
end
end Go.Proofs.YtjanfdkbficmbaaGreatDoor

/- A region that draws its order, walked operation by operation: what each one leaves stays true. -/
namespace Go.Proofs.YtjanfdkbficmbaaGreatDoor
open Go Go.RowKit Bn

section
variable {P : Program} {ops : Array Oper} {Q : Exit → Act → World → Prop} {md : Region.Mode}
end
section
variable {g : Nat} {t : TypeId}
end
structure Flt where
  a : Nat
  s : Nat
  T : TypeId
  Z : Array Value
  PS : Array Value → World → Prop
  [hZ : NoU Z]
structure Own where
  g : Nat
  s : Nat
  o : Nat
  T : TypeId
  Z : Array Value
  PS : Array Value → World → Prop
  [hZ : NoU Z]
section
variable (P : Program) (ops : Array Oper) (Q : Exit → Act → World → Prop) (fr : (Nat → Value) → Act) (R : Nat → Value → World → Prop) (es : List Flt) (ow : List Own) (B : Nat) (W : World)
end
section
variable {P : Program} {ops : Array Oper} {Q : Exit → Act → World → Prop} {fr : (Nat → Value) → Act} {R : Nat → Value → World → Prop} {es : List Flt} {ow : List Own} {B : Nat}
end

def PV (w : World) (b : Bool) (A : Option Addr) (n c : Nat) (D : Option Addr) (m e : Nat) (b' : Bool) (A' : Option Addr) (n' c' : Nat) (D' : Option Addr) (m' e' : Nat) (q : Rat) (k : Nat) (r : Rat) (j : Nat) : Prop := QV w b A n c D m e q k ∧ QV w b' A' n' c' D' m' e' r j
theorem PV.keep {w w' : World} {b b' : Bool} {A D A' D' : Option Addr} {n c m e n' c' m' e' k j : Nat} {q r : Rat} (h : PV w b A n c D m e b' A' n' c' D' m' e' q k r j) (hk : Kp w w') : PV w' b A n c D m e b' A' n' c' D' m' e' q k r j := ⟨h.1.keep hk, h.2.keep hk⟩
theorem PV.belw {w w' : World} {b b' : Bool} {A D A' D' : Option Addr} {n c m e n' c' m' e' k j : Nat} {q r : Rat} (h : PV w b A n c D m e b' A' n' c' D' m' e' q k r j) (hk : Below w.heap.size w w') : PV w' b A n c D m e b' A' n' c' D' m' e' q k r j := ⟨h.1.belw hk, h.2.belw hk⟩
end Go.Proofs.YtjanfdkbficmbaaGreatDoor

/- Walks: sums of turns. -/
namespace Go.Proofs.YtjanfdkbficmbaaGreatDoor
open Go Go.RowKit Bn
attribute [local go_sem ↓] Go.wp_at_zero Go.wp_at_succ
theorem QK.qv {w : World} {b : Bool} {A D : Option Addr} {n c m e k : Nat} {q : Rat} (h : QK w b A n c D m e q k) : QV w b A n c D m e q k := by
  obtain ⟨a, h1, rfl, h2⟩ := h
  unfold QV; rw [rd_of_ok h1.2.1.1 h1.2.2.1.1 h2]; exact h1
theorem TK.tv {w : World} {b x : Bool} {A D : Option Addr} {n c m e k : Nat} {t : TN} (h : TK w b A n c D m e x t k) : TV w b A n c D m e x t k := ⟨h.1.qv, h.2⟩
end Go.Proofs.YtjanfdkbficmbaaGreatDoor

/- Walks: the first error of some turns. -/
namespace Go.Proofs.YtjanfdkbficmbaaGreatDoor
open Go Go.RowKit Bn
attribute [local go_sem ↓] Go.wp_at_zero Go.wp_at_succ
def Ts (w : World) (g n k : Nat) : Prop := g < w.heap.size ∧ ∀ i, i < n → ∃ b A m c D m' e x t, w.cell? ⟨g, i * 4, none⟩ = some (.bool b) ∧ w.cell? ⟨g, i * 4 + 1, none⟩ = some (.slice A m c) ∧ w.cell? ⟨g, i * 4 + 2, none⟩ = some (.slice D m' e) ∧ w.cell? ⟨g, i * 4 + 3, none⟩ = some (.bool x) ∧ TK w b A m c D m' e x t k
theorem Ts.belw {w w' : World} {g n k : Nat} (h : Ts w g n k) (hb : Below w.heap.size w w') : Ts w' g n k := by
  obtain ⟨hg, h⟩ := h
  have hc := (bcell hb).1
  refine ⟨Nat.lt_of_lt_of_le hg hb.size, fun i hi => ?_⟩
  obtain ⟨b, A, m, c, D, m', e, x, t, h1, h2, h3, h4, h5⟩ := h i hi
  exact ⟨b, A, m, c, D, m', e, x, t, (hc _ _ hg).trans h1, (hc _ _ hg).trans h2, (hc _ _ hg).trans h3, (hc _ _ hg).trans h4, h5.belw hb⟩
end Go.Proofs.YtjanfdkbficmbaaGreatDoor

/- Walks: the laws' own small functions: short, good. -/
namespace Go.Proofs.YtjanfdkbficmbaaGreatDoor
open Go Go.RowKit Bn
attribute [local go_sem ↓] Go.wp_at_zero Go.wp_at_succ
def Rs (w : World) (g N : Nat) (ns ms : Nat → Nat) : Prop := g < w.heap.size ∧ ∀ i, i < N → ∃ b A c D e, w.cell? ⟨g, i * 3, none⟩ = some (.bool b) ∧ w.cell? ⟨g, i * 3 + 1, none⟩ = some (.slice A (ns i) c) ∧ w.cell? ⟨g, i * 3 + 2, none⟩ = some (.slice D (ms i) e)
theorem Rs.belw {w w' : World} {g N : Nat} {ns ms : Nat → Nat} (h : Rs w g N ns ms) (hb : Below w.heap.size w w') : Rs w' g N ns ms := by
  obtain ⟨hg, h⟩ := h
  have hc := (bcell hb).1
  refine ⟨Nat.lt_of_lt_of_le hg hb.size, fun i hi => ?_⟩
  obtain ⟨b, A, c, D, e, h1, h2, h3⟩ := h i hi
  exact ⟨b, A, c, D, e, (hc _ _ hg).trans h1, (hc _ _ hg).trans h2, (hc _ _ hg).trans h3⟩
def Gs (w : World) (g N k : Nat) (rs : Nat → RD) (xs : Nat → Bool) : Prop := g < w.heap.size ∧ ∀ i, i < N → ∃ b A m c D m' e, w.cell? ⟨g, i * 4, none⟩ = some (.bool b) ∧ w.cell? ⟨g, i * 4 + 1, none⟩ = some (.slice A m c) ∧ w.cell? ⟨g, i * 4 + 2, none⟩ = some (.slice D m' e) ∧ w.cell? ⟨g, i * 4 + 3, none⟩ = some (.bool (xs i)) ∧ QD w b A m c D m' e (rs i) k
theorem Gs.belw {w w' : World} {g N k : Nat} {rs : Nat → RD} {xs : Nat → Bool} (h : Gs w g N k rs xs) (hb : Below w.heap.size w w') : Gs w' g N k rs xs := by
  obtain ⟨hg, h⟩ := h
  have hc := (bcell hb).1
  refine ⟨Nat.lt_of_lt_of_le hg hb.size, fun i hi => ?_⟩
  obtain ⟨b, A, m, c, D, m', e, h1, h2, h3, h4, h5⟩ := h i hi
  exact ⟨b, A, m, c, D, m', e, (hc _ _ hg).trans h1, (hc _ _ hg).trans h2, (hc _ _ hg).trans h3, (hc _ _ hg).trans h4, h5.belw hb⟩
end Go.Proofs.YtjanfdkbficmbaaGreatDoor

/- Walks: equal fields of equal fractions. -/
namespace Go.Proofs.YtjanfdkbficmbaaGreatDoor
open Go Go.RowKit Bn
attribute [local go_sem ↓] Go.wp_at_zero Go.wp_at_succ
theorem b_words (w : World) (A : Option Addr) (n c : Nat) (l : List Nat) (wa : Wd w A n c l) (A' : Option Addr) (n' c' : Nat) (wb : Wd w A' n' c' l) (hn : n ≤ 1000000000) :
  Calls Tryz.prog 23 #[.slice A n c, .slice A' n' c'] w (RetV w (.bool true)) := by
 have hnn : n' = n := by rw [wa.2.1, wb.2.1]
 subst hnn
 have HA := Lib.hid wa
 have HB := Lib.hid wb
 clear wa wb
 go_enter Tryz.func23, Tryz.ntmps23
 go_wp2_with fail
 go_loopw [5] (fun iv wr => ∃ (i q : Nat), i ≤ n' ∧ iv = .int .i64 (i : Nat) ∧ wr = w.drewN q) (fun iv _ => n' - (intOf iv).toNat)
 case atStart => exact ⟨0, 0, Nat.zero_le _, rfl, rfl⟩
 case round =>
  obtain ⟨i, q, hi, rfl, rfl⟩ := hrel
  by_cases hlt : i < n'
  ·obtain ⟨g, o, rfl, hc1⟩ := HA.out.at_ (by omega)
   obtain ⟨g', o', rfl, hc2⟩ := HB.out.at_ (by omega)
   have h1 := hc1 i hlt
   have h2 := hc2 i hlt
   have hi0 : (0 : Int) ≤ (i : Int) := by omega
   have hi1 : (i : Int) < (n' : Int) := by omega
   generalize wd l i = x at h1 h2
   clear hc1 hc2
   go_wp2_with fail
   go_quiet (fail)
   go_wp2
   go_roundw
   case rel => exact ⟨i + 1, _, by omega, by go_num, rfl⟩
   case measure => simp [intOf]; omega
  ·go_wp2
   go_ret
   exact retB rfl (by repeat (first | exact Below.refl _ _ | refine below_drewN ?_ _))
theorem b_rat (w : World) (b : Bool) (A : Option Addr) (n c : Nat) (D : Option Addr) (m e : Nat) (b' : Bool) (A' : Option Addr) (n' c' : Nat) (D' : Option Addr) (m' e' : Nat) (q : Rat) (k k' : Nat) (h : QV w b A n c D m e q k) (h' : QV w b' A' n' c' D' m' e' q k') (hk : k ≤ 1000000) :
  Calls Tryz.prog 10 #[.agg #[.bool b, .slice A n c, .slice D m e], .agg #[.bool b', .slice A' n' c', .slice D' m' e']] w (RetV w (.bool true)) := by
 obtain ⟨e1, ha, hd, hk1, hk2⟩ := h
 obtain ⟨e1', ha', hd', _, _⟩ := h'
 subst e1 e1'
 have HE : ((rd q).neg == (rd q).neg) = true := by simp
 have HA := Lib.hid (And.intro ha ha')
 have HD := Lib.hid (And.intro hd hd')
 clear ha ha' hd hd'
 go_enter Tryz.func10, Tryz.ntmps10
 go_wp2_with fail
 (with_reducible refine (b_words _ A n c (rd q).num ?_ A' n' c' ?_ ?_).mono ?_); (exact HA.out.1.keep (((Kp.refl _).alloc _).alloc _)); (exact HA.out.2.keep (((Kp.refl _).alloc _).alloc _)); (omega); rintro e w1 ⟨rfl, hb⟩
 have q1 : Below w.heap.size w w1 := (((Below.refl _ _).alloc (Nat.le_refl _) _).alloc (by simp) _).trans (hb.mono (by simp <;> omega))
 have x0 : Blk w1 w.heap.size 32 #[.bool (rd q).neg, .slice A n c, .slice D m e] := ((blkAt w _ _ rfl).alloc _).below hb (by simp <;> omega)
 have x1 : Blk w1 (w.heap.size + 1) 32 #[.bool (rd q).neg, .slice A' n' c', .slice D' m' e'] := (blkAt _ _ _ (by simp)).below hb (by simp)
 have c02 : w1.cell? ⟨w.heap.size, 2, none⟩ = some (.slice D m e) := x0.cell 2
 have c12 : w1.cell? ⟨w.heap.size + 1, 2, none⟩ = some (.slice D' m' e') := x1.cell 2
 clear hb
 go_wp2_with fail
 (with_reducible refine (b_words _ D m e (rd q).den ?_ D' m' e' ?_ ?_).mono ?_); (exact HD.out.1.belw q1); (exact HD.out.2.belw q1); (omega); rintro e w2 ⟨rfl, hb2⟩
 go_wp2_with fail
 go_ret
 exact ⟨rfl, q1.trans (hb2.mono q1.size)⟩
end Go.Proofs.YtjanfdkbficmbaaGreatDoor

/- Digits one by one; texts read as numbers: plain. -/
namespace Bn
open Go.Lib
def dg (V : Nat) : List UInt8 := if V = 0 then [] else decDigits V
theorem dg_step {V : Nat} (h : 0 < V) : dg V = dg (V / 10) ++ [UInt8.ofNat (48 + V % 10)] := by
  unfold dg
  rw [if_neg (by omega)]
  by_cases h1 : V < 10
  · rw [if_pos (by omega), decDigits_one h1, Nat.mod_eq_of_lt h1]; rfl
  · rw [if_neg (by omega)]; conv => lhs; rw [decDigits, dif_neg h1]
def DgI (N q k r : Nat) (s : List UInt8) : Prop := decDigits N = dg (q * 10 ^ (9 - k) + r) ++ s ∧ r < 10 ^ (9 - k)
theorem DgI.start {N Q : Nat} {s : List UInt8} (h : decDigits N = dg Q ++ s) : DgI N (Q / 1000000000) 0 (Q % 1000000000) s := by
  refine ⟨?_, Nat.mod_lt _ (by decide)⟩
  rw [show Q / 1000000000 * 10 ^ (9 - 0) + Q % 1000000000 = Q by rw [Nat.mul_comm]; exact Nat.div_add_mod Q 1000000000]
  exact h
theorem DgI.step {N q k r : Nat} {s : List UInt8} (h : DgI N q k r s) (hk : k < 9) (h0 : 0 < r ∨ 0 < q) : DgI N q (k + 1) (r / 10) ([UInt8.ofNat (48 + r % 10)] ++ s) := by
  obtain ⟨h1, h2⟩ := h
  have e : 10 ^ (9 - k) = 10 ^ (9 - (k + 1)) * 10 := by rw [← Nat.pow_succ]; congr 1; omega
  rw [e] at h1 h2
  have hp : 0 < 10 ^ (9 - (k + 1)) := Nat.pow_pos (by omega)
  unfold DgI
  generalize 10 ^ (9 - (k + 1)) = P at *
  have e2 : q * (P * 10) + r = (q * P + r / 10) * 10 + r % 10 := by rw [← Nat.mul_assoc]; omega
  have h3 : 0 < q * (P * 10) + r := by
    rcases h0 with h | h
    · omega
    · have := Nat.mul_pos h (show 0 < P * 10 by omega); omega
  refine ⟨?_, by omega⟩
  rw [h1, dg_step h3, e2, show ((q * P + r / 10) * 10 + r % 10) / 10 = q * P + r / 10 by omega, show ((q * P + r / 10) * 10 + r % 10) % 10 = r % 10 by omega, List.append_assoc]
theorem dg_len {N Q : Nat} {s : List UInt8} (h : decDigits N = dg Q ++ s) : s.length ≤ nDigits N := by
  rw [← decDigits_length, h, List.length_append]; omega
theorem DgI.len {N q k r : Nat} {s : List UInt8} (h : DgI N q k r s) : s.length ≤ nDigits N := dg_len h.1

/-! ### Texts read -/
def isDg (c : UInt8) : Bool := decide (48 ≤ c.toNat) && decide (c.toNat ≤ 57)
def dval (c : UInt8) : Nat := c.toNat - 48
def decVal (l : List UInt8) : Nat := l.foldl (fun a c => a * 10 + dval c) 0
theorem foldl_dec (l : List UInt8) : ∀ a, l.foldl (fun a c => a * 10 + dval c) a = a * 10 ^ l.length + decVal l := by
  unfold decVal
  induction l with
  | nil => intro a; simp
  | cons x r ih =>
    intro a
    rw [List.foldl_cons, ih, List.foldl_cons, ih (0 * 10 + dval x), List.length_cons, Nat.pow_succ, Nat.add_mul]
    rw [Nat.zero_mul, Nat.zero_add, Nat.mul_assoc, Nat.mul_comm 10, Nat.add_assoc]
theorem decVal_app (a b : List UInt8) : decVal (a ++ b) = decVal a * 10 ^ b.length + decVal b := by
  conv => lhs; unfold decVal
  rw [List.foldl_append, foldl_dec]; rfl
theorem decVal_snoc (a : List UInt8) (c : UInt8) : decVal (a ++ [c]) = decVal a * 10 + dval c := by
  rw [decVal_app]; simp [decVal]
theorem decVal_lt : ∀ {l : List UInt8}, l.all isDg = true → decVal l < 10 ^ l.length := by
  intro l
  induction l with
  | nil => intro _; simp [decVal]
  | cons x r ih =>
    intro h
    rw [List.all_cons, Bool.and_eq_true] at h
    have h1 := ih h.2
    have hx : dval x ≤ 9 := by
      have := h.1; unfold isDg at this; simp at this; unfold dval; omega
    have e : decVal (x :: r) = dval x * 10 ^ r.length + decVal r := by
      have := decVal_app [x] r
      simpa [decVal] using this
    rw [e, List.length_cons, Nat.pow_succ]
    have := Nat.mul_le_mul_right (10 ^ r.length) hx
    omega
def tailS (l : List UInt8) : List UInt8 := match l with | 45 :: r => r | l => l
def headM (l : List UInt8) : Bool := match l with | 45 :: _ => true | _ => false
def okZ (l : List UInt8) : Bool := decide (tailS l ≠ []) && (tailS l).all isDg && !(decide ((tailS l).head? = some 48) && (decide (1 < (tailS l).length) || headM l))
def valZ (l : List UInt8) : Int := if headM l then -(decVal (tailS l) : Int) else decVal (tailS l)
end Bn

/- Texts read as numbers: what the library's functions give on digits. Plain. -/
namespace Bn
open Go.Lib
theorem digitVal_dg {c : UInt8} (h : isDg c = true) : digitVal c = some (dval c) := by
  unfold isDg at h
  rw [Bool.and_eq_true, decide_eq_true_eq, decide_eq_true_eq] at h
  unfold digitVal dval
  rw [if_pos h]
theorem decFrom_dg : ∀ {l : List UInt8}, l.all isDg = true → ∀ acc, decFrom acc l = some (l.foldl (fun a c => a * 10 + dval c) acc) := by
  intro l
  induction l with
  | nil => intro _ acc; rfl
  | cons x r ih =>
    intro h acc
    rw [List.all_cons, Bool.and_eq_true] at h
    rw [decFrom, digitVal_dg h.1, List.foldl_cons]
    exact ih h.2 _
theorem atoi_dec {l : List UInt8} (h : l.all isDg = true) (h0 : l ≠ []) : atoi l = some (decVal l : Int) := by
  cases l with
  | nil => exact absurd rfl h0
  | cons x r =>
    have hx : isDg x = true := by rw [List.all_cons, Bool.and_eq_true] at h; exact h.1
    have h1 : (x == 45) = false := by
      apply Bool.eq_false_iff.2
      intro e
      rw [beq_iff_eq] at e
      subst e
      exact absurd hx (by decide)
    have h2 : (x == 43) = false := by
      apply Bool.eq_false_iff.2
      intro e
      rw [beq_iff_eq] at e
      subst e
      exact absurd hx (by decide)
    unfold atoi
    dsimp only
    rw [h1, h2]
    simp only [Bool.false_eq_true, if_false]
    unfold decNat
    rw [if_neg (by simp), decFrom_dg h]
    rfl
def digs10 : List UInt8 := [48, 49, 50, 51, 52, 53, 54, 55, 56, 57]
theorem contains_dg (c : UInt8) : digs10.contains c = isDg c := by
  have h : ∀ v : Fin 256, digs10.contains (UInt8.ofNat v) = isDg (UInt8.ofNat v) := by decide +kernel
  have := h ⟨c.toNat, c.toNat_lt⟩
  simpa using this
theorem dropWhile_nil {p : UInt8 → Bool} : ∀ {l : List UInt8}, l.dropWhile p = [] ↔ l.all p = true := by
  intro l
  induction l with
  | nil => simp
  | cons x r ih =>
    by_cases h : p x = true
    · rw [List.dropWhile_cons_of_pos h, ih, List.all_cons, h]; simp
    · rw [List.dropWhile_cons_of_neg h]; simp [h]
theorem dropWhile_head {p : UInt8 → Bool} : ∀ {l : List UInt8} {x : UInt8} {r : List UInt8}, l.dropWhile p = x :: r → p x = false := by
  intro l
  induction l with
  | nil => intro x r h; simp at h
  | cons y s ih =>
    intro x r h
    by_cases hy : p y = true
    · rw [List.dropWhile_cons_of_pos hy] at h; exact ih h
    · rw [List.dropWhile_cons_of_neg hy] at h
      injection h with h1 h2
      subst h1
      simpa using hy
theorem trim_dg {l : List UInt8} : trimS l digs10 = [] ↔ l.all isDg = true := by
  have hp : (fun b => digs10.contains b) = isDg := funext contains_dg
  unfold trimS trimLeftS trimRightS
  rw [hp]
  rw [dropWhile_nil, List.all_reverse]
  constructor
  · intro h
    cases hd : l.reverse.dropWhile isDg with
    | nil => have := dropWhile_nil.1 hd; rw [List.all_reverse] at this; exact this
    | cons x r =>
      rw [hd, List.all_cons, Bool.and_eq_true] at h
      rw [dropWhile_head hd] at h
      exact absurd h.1 (by simp)
  · intro h
    rw [dropWhile_nil.2 (by rw [List.all_reverse]; exact h)]
    rfl
theorem hasPrefix_m (l : List UInt8) : hasPrefix l [45] = headM l := by
  unfold hasPrefix headM
  cases l with
  | nil => rfl
  | cons x r =>
    by_cases h : x = 45
    · subst h; rfl
    · have e : (45 == x) = false := by simp; exact fun e => h e.symm
      simp only [List.isPrefixOf, e, Bool.false_and]
      split
      · rename_i h1; injection h1 with h2; exact absurd h2 h
      · rfl
theorem trimPrefix_m (l : List UInt8) : trimPrefix l [45] = tailS l := by
  unfold trimPrefix
  rw [hasPrefix_m]
  unfold headM tailS
  split
  · rename_i r
    rfl
  · rfl
theorem tailS_len (l : List UInt8) : (tailS l).length ≤ l.length := by
  unfold tailS; split <;> simp
theorem len_ten (k : Nat) : 10 ^ k ≤ 4294967296 ^ k := Nat.pow_le_pow_left (by omega) k
theorem decVal_words {l : List UInt8} (h : l.all isDg = true) : decVal l < 4294967296 ^ l.length := Nat.lt_of_lt_of_le (decVal_lt h) (len_ten _)
theorem all_take {l : List UInt8} {p : UInt8 → Bool} (h : l.all p = true) (k : Nat) : (l.take k).all p = true := by
  rw [List.all_eq_true] at h ⊢
  exact fun x hx => h x (List.mem_of_mem_take hx)
theorem all_drop {l : List UInt8} {p : UInt8 → Bool} (h : l.all p = true) (k : Nat) : (l.drop k).all p = true := by
  rw [List.all_eq_true] at h ⊢
  exact fun x hx => h x (List.mem_of_mem_drop hx)
def GrpI (t pre rest : List UInt8) : Prop := t = pre ++ rest ∧ (pre = [] ∨ rest.length % 9 = 0)
theorem GrpI.step {t pre rest : List UInt8} {n : Nat} (h : GrpI t pre rest) (h0 : 0 < rest.length) (hn : (rest.length - 1) % 9 + 1 = n) :
    n ≤ rest.length ∧ n ≤ 9 ∧ 0 < n ∧ GrpI t (pre ++ rest.take n) (rest.drop n) ∧ decVal (pre ++ rest.take n) = decVal pre * 1000000000 + decVal (rest.take n) := by
  have h1 : n ≤ rest.length := by have := Nat.mod_le (rest.length - 1) 9; omega
  refine ⟨h1, by have := Nat.mod_lt (rest.length - 1) (show 0 < 9 by omega); omega, by omega, ⟨?_, ?_⟩, ?_⟩
  · rw [List.append_assoc, List.take_append_drop]; exact h.1
  · right; rw [List.length_drop]; omega
  · rw [decVal_app, List.length_take, Nat.min_eq_left h1]
    rcases h.2 with e | e
    · subst e; simp [decVal]
    · have : n = 9 := by omega
      subst this; rfl
theorem GrpI.start (t : List UInt8) : GrpI t [] t := ⟨rfl, .inl rfl⟩
theorem GrpI.fin {t pre : List UInt8} (h : GrpI t pre []) : pre = t := by have := h.1; rw [List.append_nil] at this; exact this.symm
theorem okZ_parts {l : List UInt8} (h : okZ l = true) : tailS l ≠ [] ∧ (tailS l).all isDg = true ∧ ¬ ((tailS l).head? = some 48 ∧ (1 < (tailS l).length ∨ headM l = true)) := by
  unfold okZ at h
  simp at h
  refine ⟨h.1.1, by simpa using h.1.2, fun ⟨a, b⟩ => ?_⟩
  rcases h.2 with e | e
  · exact e a
  · rcases b with b | b
    · omega
    · rw [b] at e; exact absurd e.2 (by simp)
end Bn

/- Walks: integer.Parse. -/
namespace Go.Proofs.YtjanfdkbficmbaaGreatDoor
open Go Go.RowKit Bn

theorem toList_v (l : List UInt8) : (⟨l.toArray⟩ : ByteArray).toList = l := by rw [Lib.toList_data]
theorem size_v (l : List UInt8) : (⟨l.toArray⟩ : ByteArray).size = l.length := rfl
theorem ext_v (l : List UInt8) (a b : Nat) : (⟨l.toArray⟩ : ByteArray).extract a b = ⟨((l.drop a).take (b - a)).toArray⟩ := by
  apply ByteArray.ext
  rw [ByteArray.data_extract]
  simp
theorem prefix_v (w : World) (l : List UInt8) (m : Bool) (hm : headM l = m) : Calls Tryz.prog 30 #[strV l, .string ⟨#[45]⟩] w (RetV w (.bool m)) := by
  subst hm
  refine (Tryz.strings_HasPrefix ⟨l.toArray⟩ ⟨#[45]⟩ w).mono fun e w' ⟨he, hw⟩ => ⟨?_, hw ▸ brefl _⟩
  rw [he]
  exact congrArg (fun x => Ending.returned (.bool x)) (hasPrefix_m l)
theorem tprefix_v (w : World) (l t : List UInt8) (ht : tailS l = t) : Calls Tryz.prog 36 #[strV l, .string ⟨#[45]⟩] w (RetV w (strV t)) := by
  subst ht
  refine (Tryz.strings_TrimPrefix ⟨l.toArray⟩ ⟨#[45]⟩ w).mono fun e w' ⟨he, hw⟩ => ⟨?_, hw ▸ brefl _⟩
  rw [he]
  exact congrArg (fun x : List UInt8 => Ending.returned (strV x)) (trimPrefix_m l)
theorem trim_v (w : World) (t x : List UInt8) (hn : t.length ≤ 1000000) (hx : Lib.trimS t digs10 = x) : Calls Tryz.prog 37 #[strV t, .string ⟨#[48, 49, 50, 51, 52, 53, 54, 55, 56, 57]⟩] w (RetV w (strV x)) := by
  subst hx
  exact Any.strings_Trim_laid Tryz.lays160 (by kernel_rfl) ⟨t.toArray⟩ ⟨#[48, 49, 50, 51, 52, 53, 54, 55, 56, 57]⟩ w (by show t.length ≤ _; omega) (by decide) (ascii_of_all (by decide))
theorem atoi_v (w : World) (t : List UInt8) (x : Nat) (hn : t.length ≤ 9) (h0 : t ≠ []) (ha : t.all isDg = true) (hx : decVal t = x) : Calls Tryz.prog 38 #[strV t] w (RetV w (.tuple #[.int .i64 (x : Nat), .nilIface])) := by
  subst hx
  refine (Tryz.strconv_Atoi ⟨t.toArray⟩ (decVal t : Nat) (by show t.length ≤ 18; omega) (atoi_dec ha h0) w).mono fun e w' ⟨he, t, hw⟩ => ⟨he, ?_⟩
  rw [hw]
  exact ⟨rfl, rfl, rfl, by rw [Lib.bytesWorld_size]; omega, fun j hj => Lib.bytesWorld_at_old _ _ _ j hj⟩
def ParseI (T : List UInt8) (W0 wr : World) (tv mv : Value) : Prop := ∃ pre rest A1 n1 c1, tv = strV rest ∧ mv = .slice A1 n1 c1 ∧ n1 ≤ 65536 ∧ rest.length ≤ 65536 ∧ Kept (GrpI T pre rest ∧ pre.all isDg = true ∧ rest.all isDg = true ∧ Wd wr A1 n1 c1 (digs (decVal pre))) ∧ Below W0.heap.size W0 wr
def strLen : Value → Nat
  | .string s => s.size
  | _ => 0
theorem plus_k (w : World) (A : Option Addr) (n c x : Nat) (wa : Wd w A n c (digs x)) (hn : n ≤ 1099511627776) (A' : Option Addr) (n' c' y : Nat) (wb : Wd w A' n' c' (digs y)) (hn' : n' ≤ 1099511627776) :
    Calls Tryz.prog 39 #[.slice A n c, .slice A' n' c'] w (RetL w (digs (x + y))) := by
  have := plus_c w A n c (digs x) wa hn A' n' c' (digs y) wb hn'
  rw [val_digs, val_digs] at this
  exact this
theorem times_n (w : World) (A : Option Addr) (n c x : Nat) (wa : Wd w A n c (digs x)) (hn : n ≤ 1099511627776) (g : Nat) (z : Int) (y : Nat) (hz : z = y) (hy : y < 4294967296) (hb : Blk w g 79 #[.int .u32 z]) :
    Calls Tryz.prog 40 #[.slice A n c, .slice (some ⟨g, 0, none⟩) 1 1] w (RetL w (digs (x * y))) := by
  subst hz
  have h1 : Wd w (some ⟨g, 0, none⟩) 1 1 [y] := Blk.wdN (l := [y]) hb (by intro x hx; simp at hx; omega) rfl
  have := times_c w A n c (digs x) wa hn (some ⟨g, 0, none⟩) 1 1 [y] h1 (by omega)
  rw [val_digs, show val [y] = y by simp [val]] at this
  exact this
theorem trim_n (w : World) (g : Nat) (z : Int) (y : Nat) (hz : z = y) (hy : y < 4294967296) (hb : Blk w g 79 #[.int .u32 z]) :
    Calls Tryz.prog 41 #[.slice (some ⟨g, 0, none⟩) 1 1] w (RetL w (digs y)) := by
  subst hz
  have h1 : Wd w (some ⟨g, 0, none⟩) 1 1 [y] := Blk.wdN (l := [y]) hb (by intro x hx; simp at hx; omega) rfl
  have := trim_c w (some ⟨g, 0, none⟩) 1 1 [y] h1 (by omega)
  rw [show val [y] = y by simp [val]] at this
  exact this
theorem i_parse_ok (w : World) (l : List UInt8) (hl : l.length ≤ 65536) (hb : okZ l = true) :
    Calls Tryz.prog 17 #[strV l] w (RetIe w .nilIface (valZ l) l.length) := by
  have hsz := size_v l
  have htl2 := tailS_len l
  have htl := Nat.le_trans htl2 hl
  obtain ⟨m, hm⟩ : ∃ m, headM l = m := ⟨_, rfl⟩
  obtain ⟨t, ht⟩ : ∃ t, tailS l = t := ⟨_, rfl⟩
  obtain ⟨h0, h1, h2⟩ := okZ_parts hb
  have hv : valZ l = if m then -(decVal t : Int) else decVal t := by unfold valZ; rw [hm, ht]
  rw [hm, ht] at h2
  rw [ht] at htl htl2 h0 h1
  have HM := Lib.hid (And.intro hm ht)
  have HV := Lib.hid hv
  have b0 : Below w.heap.size w (w.alloc (.cells #[.bool false, .slice none 0 0] 52)) := (brefl w).alloc (Nat.le_refl _) _
  have x0 : Blk (w.alloc (.cells #[.bool false, .slice none 0 0] 52)) w.heap.size 52 #[.bool false, .slice none 0 0] := blkAt _ _ _ rfl
  clear hb hm ht hv
  obtain ⟨c, r, rfl⟩ := List.exists_cons_of_ne_nil h0
  have htl0 := toList_v (c :: r)
  have htl1 := toList_v []
  have hsz0 := size_v (c :: r)
  have HX := Lib.hid (trim_dg.2 h1)
  have HTL := Lib.hid (show (c :: r : List UInt8).length ≤ 1000000 by omega)
  have HALL := Lib.hid h1
  have hcase : c ≠ 48 ∨ (c = 48 ∧ r = [] ∧ m = false) := by
    by_cases hc : c = 48
    · refine .inr ⟨hc, ?_, ?_⟩
      · cases r with
        | nil => rfl
        | cons d rs => exact absurd ⟨by rw [hc]; rfl, .inl (by simp)⟩ h2
      · cases m with
        | false => rfl
        | true => exact absurd ⟨by rw [hc]; rfl, .inr rfl⟩ h2
    · exact .inl hc
  have HLL := Lib.hid htl
  have HSZ := Lib.hid (show (valZ l).natAbs < 4294967296 ^ l.length by
    rw [HV.out]
    refine Nat.lt_of_lt_of_le (show (if m = true then -(decVal (c :: r) : Int) else (decVal (c :: r) : Int)).natAbs < 4294967296 ^ (c :: r).length by
      have := decVal_words h1
      split <;> omega) (Nat.pow_le_pow_right (by omega) htl2))
  clear h0 h1 h2
  rcases hcase with hc | ⟨rfl, rfl, rfl⟩
  · have hcn : c.toNat ≠ 48 := fun e => hc (UInt8.toNat.inj e)
    have hcz : ¬ (c.toNat : Int) = 48 := by omega
    have hcb : ((c.toNat : Int) == 48) = false := by simp; omega
    have hget : ∀ h, (⟨(c :: r).toArray⟩ : ByteArray)[0]'h = c := fun h => rfl
    go_enter Tryz.func17, Tryz.ntmps17
    go_wp2_with (first
      | (go_at_call 30; (with_reducible refine (prefix_v _ l _ HM.out.1).mono ?_); rintro e w1 ⟨rfl, hb1⟩; have b1 := b0.trans (hb1.mono b0.size); have x1 := x0.below hb1 x0.lt)
      | (go_at_call 36; (with_reducible refine (tprefix_v _ l _ HM.out.2).mono ?_); rintro e w2 ⟨rfl, hb2⟩; have b2 := b1.trans (hb2.mono b1.size); have x2 := x1.below hb2 x1.lt)
      | (go_at_call 37; (with_reducible refine (trim_v _ _ [] ?_ HX.out).mono ?_); (exact HTL.out); rintro e w3 ⟨rfl, hb3⟩; have b3 := b2.trans (hb3.mono b2.size); have x3 := x2.below hb3 x2.lt))
    clear hget hcz hcb hcn hc htl0 htl1 hsz0
    go_loopw [5, 6] (fun tv mv wr => ParseI (c :: r) w3 wr tv mv) (fun tv _ _ => strLen tv)
    case atStart => exact ⟨[], (c :: r), none, 0, 0, rfl, rfl, by omega, HLL.out, ⟨GrpI.start _, rfl, HALL.out, by rw [show decVal [] = 0 from rfl, digs_zero]; exact Wd.nil_ _⟩, brefl _⟩
    case round =>
      obtain ⟨pre, rest, A1, n1, c1, rfl, rfl, hn1, hrl, hK, rr⟩ := hrel
      have bw := b3.trans (rr.mono b3.size)
      have x4 := x3.below rr x3.lt
      by_cases hr0 : rest = []
      · subst hr0
        have hpre := hK.1.fin
        subst hpre
        have hsz1 := size_v []
        go_wp2_with (go_at_call 42; (with_reducible refine (whole_c _ m A1 n1 c1 (digs (decVal (c :: r))) ?_ ?_).mono ?_); (exact hK.2.2.2); omega; rintro e w5 ⟨A5, n5, c5, rfl, h5, hb5⟩; have b5 := bw.trans (hb5.mono bw.size); have x5 := x4.below hb5 x4.lt; obtain ⟨d0, d1⟩ := x5.c2; obtain ⟨f0, f1⟩ := x5.f2)
        rw [val_digs] at h5
        have hz : sgn m (decVal (c :: r)) = valZ l := by rw [HV.out]; rfl
        rw [hz] at h5
        refine bodyPost_ret (v := .tuple #[.agg #[.bool _, .slice A5 n5 c5], .nilIface]) (by simp [results, Tryz.results17, go_sem, *] <;> first | rfl | exact ⟨rfl, rfl⟩) rfl ?_
        exact ⟨_, _, _, _, rfl, IV.mk_ (h5.keep (kp2 x5.box (by decide) _ _ _ _)) (by rw [val_digs, hz]) HSZ.out, (b5.setCell (by dsimp only; omega) _).setCell (by dsimp only; omega) _⟩
      · have hlp : 0 < rest.length := List.length_pos_iff.2 hr0
        obtain ⟨L, hL⟩ : ∃ L, rest.length = L := ⟨_, rfl⟩
        obtain ⟨k, hk⟩ : ∃ k, (L - 1) % 9 = k := ⟨_, rfl⟩
        have hk9 : k < 9 := by rw [← hk]; exact Nat.mod_lt _ (by omega)
        have hst := hK.1.step (n := k + 1) hlp (by rw [hL, hk])
        rw [hL] at hst hlp hrl
        have hkL := hst.1
        have hsz1 : (⟨rest.toArray⟩ : ByteArray).size = L := hL
        have e1 : ((L : Int) - 1) % 9 = (k : Int) := by omega
        have e2 : (⟨rest.toArray⟩ : ByteArray).extract 0 (k + 1) = ⟨(rest.take (k + 1)).toArray⟩ := by rw [ext_v]; simp
        have e3 : (⟨rest.toArray⟩ : ByteArray).extract (k + 1) L = ⟨(rest.drop (k + 1)).toArray⟩ := by rw [ext_v, List.take_of_length_le]; rw [List.length_drop, hL]; exact Nat.le_refl _
        obtain ⟨x, hx⟩ : ∃ x, decVal (rest.take (k + 1)) = x := ⟨_, rfl⟩
        have htk := all_take hK.2.2.1 (k + 1)
        have hx9 : x < 1000000000 := by
          have h9 := decVal_lt htk
          rw [hx] at h9
          refine Nat.lt_of_lt_of_le h9 (Nat.le_trans (Nat.pow_le_pow_right (by omega) (show (rest.take (k + 1)).length ≤ 9 by rw [List.length_take]; omega)) (by decide))
        have hpd := all_drop hK.2.2.1 (k + 1)
        have HST := Lib.hid hst
        have HXX := Lib.hid hx
        have HTK := Lib.hid htk
        have HLR := Lib.hid hL
        have hnd : (rest.drop (k + 1)).length = L - (k + 1) := by rw [List.length_drop, hL]
        have HND := Lib.hid hnd
        have hT1 : (rest.take (k + 1)).length ≤ 9 := by rw [List.length_take]; omega
        have hT0 : rest.take (k + 1) ≠ [] := fun e => by have := congrArg List.length e; rw [List.length_take, hL] at this; simp at this; omega
        have HT1 := Lib.hid (And.intro hT1 hT0)
        have hpl := decVal_lt (show (pre ++ rest.take (k + 1)).all isDg = true by rw [List.all_append, hK.2.1, htk]; rfl)
        clear hk hst hx htk hL hr0 hnd hT1 hT0
        go_wp2_with (first
          | (go_at_call 38; (with_reducible refine (atoi_v _ (rest.take (k + 1)) x ?_ ?_ ?_ HXX.out).mono ?_); (exact HT1.out.1); (exact HT1.out.2); (exact HTK.out); rintro e w5 ⟨rfl, hb5⟩; have b5 : Below wr.heap.size wr (w5.alloc (.cells #[.int .u32 1000000000] 79)) := hb5.alloc hb5.size _; have y5 : Blk (w5.alloc (.cells #[.int .u32 1000000000] 79)) w5.heap.size 79 #[.int .u32 1000000000] := blkAt _ _ _ rfl)
          | (go_at_call 40; (with_reducible refine (times_n _ A1 n1 c1 (decVal pre) ?_ ?_ w5.heap.size 1000000000 1000000000 ?_ ?_ ?_).mono ?_); (exact hK.2.2.2.belw b5); omega; rfl; omega; (exact y5); rintro e w6 ⟨A6, n6, c6, rfl, h6, hb6⟩; have b6 := b5.trans (hb6.mono b5.size); have hn6 : n6 ≤ 1000000000 := (by have h9 := h6.2.1; rw [h9]; refine Nat.le_trans (length_digs_le (k := n1 + 1) ?_) (by omega); have h8 := (hK.2.2.2).vlt (Nat.le_refl _); rw [val_digs] at h8; rw [Nat.pow_succ]; exact Nat.mul_lt_mul'' h8 (by omega)))
          | (go_at_call 41; (with_reducible refine (trim_n _ w6.heap.size (x : Int) x ?_ ?_ ?_).mono ?_); (first | rfl | omega); omega; (exact blkAt _ _ _ rfl); rintro e w7 ⟨A7, n7, c7, rfl, h7, hb7⟩; have b7 : Below wr.heap.size wr w7 := (b6.alloc b6.size _).trans (hb7.mono (by have := b6.size; simp; omega)); have h67 : Below w6.heap.size w6 w7 := ((brefl w6).alloc (Nat.le_refl _) _).trans (hb7.mono (by simp)); have hn7 : n7 ≤ 1000000000 := (by have h9 := h7.2.1; rw [h9]; exact Nat.le_trans (length_digs_le (k := 1) (by omega)) (by omega)))
          | (go_at_call 39; (with_reducible refine (plus_k _ A6 n6 c6 (decVal pre * 1000000000) ?_ ?_ A7 n7 c7 x ?_ ?_).mono ?_); (exact h6.belw h67); omega; (exact h7); omega; rintro e w8 ⟨A8, n8, c8, rfl, h8, hb8⟩; have b8 := b7.trans (hb8.mono b7.size)))
        have hv8 : decVal pre * 1000000000 + x = decVal (pre ++ rest.take (k + 1)) := by rw [HST.out.2.2.2.2, HXX.out]
        go_roundw
        case rel =>
          refine ⟨pre ++ rest.take (k + 1), rest.drop (k + 1), A8, n8, c8, rfl, rfl, ?_, by rw [HND.out]; omega, ⟨HST.out.2.2.2.1, by rw [List.all_append, hK.2.1, HTK.out]; rfl, hpd, by rw [← hv8]; exact h8⟩, rr.trans (b8.mono rr.size)⟩
          rw [h8.2.1, hv8]
          refine Nat.le_trans (length_digs_le (Nat.lt_of_lt_of_le hpl (len_ten _))) ?_
          have h9 := congrArg List.length HST.out.2.2.2.1.1
          rw [List.length_append] at h9
          omega
        case measure =>
          show (rest.drop (k + 1)).length < rest.length
          rw [HND.out, HLR.out]; omega
  · go_enter Tryz.func17, Tryz.ntmps17
    go_wp2_with (first
      | (go_at_call 30; (with_reducible refine (prefix_v _ l _ HM.out.1).mono ?_); rintro e w1 ⟨rfl, hb1⟩; have b1 := b0.trans (hb1.mono b0.size); have x1 := x0.below hb1 x0.lt)
      | (go_at_call 36; (with_reducible refine (tprefix_v _ l _ HM.out.2).mono ?_); rintro e w2 ⟨rfl, hb2⟩; have b2 := b1.trans (hb2.mono b1.size); have x2 := x1.below hb2 x1.lt)
      | (go_at_call 37; (with_reducible refine (trim_v _ _ [] ?_ HX.out).mono ?_); (exact HTL.out); rintro e w3 ⟨rfl, hb3⟩; have b3 := b2.trans (hb3.mono b2.size); have x3 := x2.below hb3 x2.lt))
    clear htl0 htl1
    go_loopw [5, 6] (fun tv mv wr => ParseI [48] w3 wr tv mv) (fun tv _ _ => strLen tv)
    case atStart => exact ⟨[], [48], none, 0, 0, rfl, rfl, by omega, HLL.out, ⟨GrpI.start _, rfl, HALL.out, by rw [show decVal [] = 0 from rfl, digs_zero]; exact Wd.nil_ _⟩, brefl _⟩
    case round =>
      obtain ⟨pre, rest, A1, n1, c1, rfl, rfl, hn1, hrl, hK, rr⟩ := hrel
      have bw := b3.trans (rr.mono b3.size)
      have x4 := x3.below rr x3.lt
      by_cases hr0 : rest = []
      · subst hr0
        have hpre := hK.1.fin
        subst hpre
        have hsz1 := size_v []
        go_wp2_with (go_at_call 42; (with_reducible refine (whole_c _ false A1 n1 c1 (digs (decVal [48])) ?_ ?_).mono ?_); (exact hK.2.2.2); omega; rintro e w5 ⟨A5, n5, c5, rfl, h5, hb5⟩; have b5 := bw.trans (hb5.mono bw.size); have x5 := x4.below hb5 x4.lt; obtain ⟨d0, d1⟩ := x5.c2; obtain ⟨f0, f1⟩ := x5.f2)
        rw [val_digs] at h5
        have hz : sgn false (decVal [48]) = valZ l := by rw [HV.out]; rfl
        rw [hz] at h5
        refine bodyPost_ret (v := .tuple #[.agg #[.bool _, .slice A5 n5 c5], .nilIface]) (by simp [results, Tryz.results17, go_sem, *] <;> first | rfl | exact ⟨rfl, rfl⟩) rfl ?_
        exact ⟨_, _, _, _, rfl, IV.mk_ (h5.keep (kp2 x5.box (by decide) _ _ _ _)) (by rw [val_digs, hz]) HSZ.out, (b5.setCell (by dsimp only; omega) _).setCell (by dsimp only; omega) _⟩
      · have hlp : 0 < rest.length := List.length_pos_iff.2 hr0
        obtain ⟨L, hL⟩ : ∃ L, rest.length = L := ⟨_, rfl⟩
        obtain ⟨k, hk⟩ : ∃ k, (L - 1) % 9 = k := ⟨_, rfl⟩
        have hk9 : k < 9 := by rw [← hk]; exact Nat.mod_lt _ (by omega)
        have hst := hK.1.step (n := k + 1) hlp (by rw [hL, hk])
        rw [hL] at hst hlp hrl
        have hkL := hst.1
        have hsz1 : (⟨rest.toArray⟩ : ByteArray).size = L := hL
        have e1 : ((L : Int) - 1) % 9 = (k : Int) := by omega
        have e2 : (⟨rest.toArray⟩ : ByteArray).extract 0 (k + 1) = ⟨(rest.take (k + 1)).toArray⟩ := by rw [ext_v]; simp
        have e3 : (⟨rest.toArray⟩ : ByteArray).extract (k + 1) L = ⟨(rest.drop (k + 1)).toArray⟩ := by rw [ext_v, List.take_of_length_le]; rw [List.length_drop, hL]; exact Nat.le_refl _
        obtain ⟨x, hx⟩ : ∃ x, decVal (rest.take (k + 1)) = x := ⟨_, rfl⟩
        have htk := all_take hK.2.2.1 (k + 1)
        have hx9 : x < 1000000000 := by
          have h9 := decVal_lt htk
          rw [hx] at h9
          refine Nat.lt_of_lt_of_le h9 (Nat.le_trans (Nat.pow_le_pow_right (by omega) (show (rest.take (k + 1)).length ≤ 9 by rw [List.length_take]; omega)) (by decide))
        have hpd := all_drop hK.2.2.1 (k + 1)
        have HST := Lib.hid hst
        have HXX := Lib.hid hx
        have HTK := Lib.hid htk
        have HLR := Lib.hid hL
        have hnd : (rest.drop (k + 1)).length = L - (k + 1) := by rw [List.length_drop, hL]
        have HND := Lib.hid hnd
        have hT1 : (rest.take (k + 1)).length ≤ 9 := by rw [List.length_take]; omega
        have hT0 : rest.take (k + 1) ≠ [] := fun e => by have := congrArg List.length e; rw [List.length_take, hL] at this; simp at this; omega
        have HT1 := Lib.hid (And.intro hT1 hT0)
        have hpl := decVal_lt (show (pre ++ rest.take (k + 1)).all isDg = true by rw [List.all_append, hK.2.1, htk]; rfl)
        clear hk hst hx htk hL hr0 hnd hT1 hT0
        go_wp2_with (first
          | (go_at_call 38; (with_reducible refine (atoi_v _ (rest.take (k + 1)) x ?_ ?_ ?_ HXX.out).mono ?_); (exact HT1.out.1); (exact HT1.out.2); (exact HTK.out); rintro e w5 ⟨rfl, hb5⟩; have b5 : Below wr.heap.size wr (w5.alloc (.cells #[.int .u32 1000000000] 79)) := hb5.alloc hb5.size _; have y5 : Blk (w5.alloc (.cells #[.int .u32 1000000000] 79)) w5.heap.size 79 #[.int .u32 1000000000] := blkAt _ _ _ rfl)
          | (go_at_call 40; (with_reducible refine (times_n _ A1 n1 c1 (decVal pre) ?_ ?_ w5.heap.size 1000000000 1000000000 ?_ ?_ ?_).mono ?_); (exact hK.2.2.2.belw b5); omega; rfl; omega; (exact y5); rintro e w6 ⟨A6, n6, c6, rfl, h6, hb6⟩; have b6 := b5.trans (hb6.mono b5.size); have hn6 : n6 ≤ 1000000000 := (by have h9 := h6.2.1; rw [h9]; refine Nat.le_trans (length_digs_le (k := n1 + 1) ?_) (by omega); have h8 := (hK.2.2.2).vlt (Nat.le_refl _); rw [val_digs] at h8; rw [Nat.pow_succ]; exact Nat.mul_lt_mul'' h8 (by omega)))
          | (go_at_call 41; (with_reducible refine (trim_n _ w6.heap.size (x : Int) x ?_ ?_ ?_).mono ?_); (first | rfl | omega); omega; (exact blkAt _ _ _ rfl); rintro e w7 ⟨A7, n7, c7, rfl, h7, hb7⟩; have b7 : Below wr.heap.size wr w7 := (b6.alloc b6.size _).trans (hb7.mono (by have := b6.size; simp; omega)); have h67 : Below w6.heap.size w6 w7 := ((brefl w6).alloc (Nat.le_refl _) _).trans (hb7.mono (by simp)); have hn7 : n7 ≤ 1000000000 := (by have h9 := h7.2.1; rw [h9]; exact Nat.le_trans (length_digs_le (k := 1) (by omega)) (by omega)))
          | (go_at_call 39; (with_reducible refine (plus_k _ A6 n6 c6 (decVal pre * 1000000000) ?_ ?_ A7 n7 c7 x ?_ ?_).mono ?_); (exact h6.belw h67); omega; (exact h7); omega; rintro e w8 ⟨A8, n8, c8, rfl, h8, hb8⟩; have b8 := b7.trans (hb8.mono b7.size)))
        have hv8 : decVal pre * 1000000000 + x = decVal (pre ++ rest.take (k + 1)) := by rw [HST.out.2.2.2.2, HXX.out]
        go_roundw
        case rel =>
          refine ⟨pre ++ rest.take (k + 1), rest.drop (k + 1), A8, n8, c8, rfl, rfl, ?_, by rw [HND.out]; omega, ⟨HST.out.2.2.2.1, by rw [List.all_append, hK.2.1, HTK.out]; rfl, hpd, by rw [← hv8]; exact h8⟩, rr.trans (b8.mono rr.size)⟩
          rw [h8.2.1, hv8]
          refine Nat.le_trans (length_digs_le (Nat.lt_of_lt_of_le hpl (len_ten _))) ?_
          have h9 := congrArg List.length HST.out.2.2.2.1.1
          rw [List.length_append] at h9
          omega
        case measure =>
          show (rest.drop (k + 1)).length < rest.length
          rw [HND.out, HLR.out]; omega
end Go.Proofs.YtjanfdkbficmbaaGreatDoor

/- Tokens: plain. -/
namespace Bn
def isLet (c : UInt8) : Bool := (decide (97 ≤ c.toNat) && decide (c.toNat ≤ 122)) || (decide (65 ≤ c.toNat) && decide (c.toNat ≤ 90))
def isPart (c : UInt8) : Bool := isLet c || isDg c || c == 95
def isSgn (c : UInt8) : Bool := c == 123 || c == 125 || c == 59 || c == 46
def isBlk (c : UInt8) : Bool := c == 32 || c == 9 || c == 13
def wordN : List UInt8 → Nat
  | [] => 0
  | c :: t => if isLet c then 1 + (t.takeWhile isPart).length else 0
def digN (r : List UInt8) : Nat := (r.takeWhile isDg).length
def minN : List UInt8 → Nat
  | 45 :: _ => 1
  | _ => 0
def tailN : List UInt8 → Nat
  | c :: t => if (c == 46 || c == 47) && decide (0 < digN t) then 1 + digN t else 0
  | [] => 0
def numN (r : List UInt8) : Nat := if digN (r.drop (minN r)) = 0 then 0 else minN r + digN (r.drop (minN r)) + tailN (r.drop (minN r + digN (r.drop (minN r))))
def badEnd : List UInt8 → Bool
  | c :: _ => isLet c || c == 95 || c == 46 || c == 47
  | [] => false
inductive First where
  | ok (kind n : Nat)
  | err (x : Nat)
def firstT (r : List UInt8) : First := match r with
  | [] => .err 2
  | c :: _ => if isSgn c then .ok 2 1 else if 0 < wordN r then (if 24 < wordN r then .err 5 else .ok 0 (wordN r))
    else if numN r = 0 then .err 2 else if 60 < numN r then .err 4 else if badEnd (r.drop (numN r)) then .err 2 else .ok 1 (numN r)
structure Tkn where
  kind : Nat
  text : List UInt8
  line : Nat
  col : Nat
deriving DecidableEq
inductive Toks where
  | ok (l : List Tkn)
  | err (x : Nat)
def Toks.push (t : Tkn) : Toks → Toks
  | .ok l => .ok (t :: l)
  | .err x => .err x
def comN (r : List UInt8) : Nat := (r.takeWhile (fun c => c != 10)).length
def toks : Nat → List UInt8 → Nat → Nat → Toks
  | 0, _, _, _ => .ok []
  | _ + 1, [], _, _ => .ok []
  | f + 1, c :: t, line, col =>
    if c = 10 then toks f t (line + 1) 1
    else if isBlk c then toks f t line (col + 1)
    else if c = 37 then toks f ((c :: t).drop (comN (c :: t))) line (col + comN (c :: t))
    else match firstT (c :: t) with
      | .err x => .err x
      | .ok k n => (toks f ((c :: t).drop n) line (col + n)).push ⟨k, (c :: t).take n, line, col⟩
theorem tw_le (p : UInt8 → Bool) (l : List UInt8) : (l.takeWhile p).length ≤ l.length := (List.takeWhile_sublist p).length_le
theorem digN_le (r : List UInt8) : digN r ≤ r.length := tw_le _ _
theorem wordN_le : ∀ (r : List UInt8), wordN r ≤ r.length
  | [] => Nat.le_refl _
  | c :: t => by
    rw [wordN]
    have := tw_le isPart t
    simp only [List.length_cons]
    split <;> omega
theorem tailN_le : ∀ (r : List UInt8), tailN r ≤ r.length
  | [] => Nat.le_refl _
  | c :: t => by
    rw [tailN]
    have := digN_le t
    simp only [List.length_cons]
    split <;> omega
theorem minN_le : ∀ (r : List UInt8), minN r ≤ r.length
  | [] => Nat.le_refl _
  | c :: t => by unfold minN; split <;> simp
theorem numN_le (r : List UInt8) : numN r ≤ r.length := by
  unfold numN
  split
  · omega
  · have h1 := digN_le (r.drop (minN r))
    have h2 := tailN_le (r.drop (minN r + digN (r.drop (minN r))))
    have h3 := minN_le r
    rw [List.length_drop] at h1 h2
    omega
theorem comN_le (r : List UInt8) : comN r ≤ r.length := tw_le _ _
theorem comN_pos {t : List UInt8} : 0 < comN (37 :: t) := by unfold comN; simp
theorem firstT_ok {r : List UInt8} {k n : Nat} (h : firstT r = .ok k n) : 0 < n ∧ n ≤ r.length := by
  unfold firstT at h
  split at h
  · cases h
  · rename_i c t
    split at h
    · injection h with _ h; subst h; simp
    · split at h
      · split at h
        · cases h
        · injection h with _ h; subst h; exact ⟨by assumption, wordN_le _⟩
      · split at h
        · cases h
        · split at h
          · cases h
          · split at h
            · cases h
            · injection h with _ h; subst h; exact ⟨by omega, numN_le _⟩
theorem toks_fuel : ∀ (f g : Nat) (r : List UInt8) (line col : Nat), r.length < f → r.length < g → toks f r line col = toks g r line col := by
  intro f
  induction f with
  | zero => intro g r _ _ h; omega
  | succ f ih =>
    intro g r line col hf hg
    cases g with
    | zero => omega
    | succ g =>
      cases r with
      | nil => rfl
      | cons c t =>
        simp only [List.length_cons] at hf hg
        unfold toks
        split
        · exact ih g t _ _ (by omega) (by omega)
        · split
          · exact ih g t _ _ (by omega) (by omega)
          · split
            · rename_i h37
              subst h37
              have h1 := comN_pos (t := t)
              have h2 := comN_le (37 :: t)
              simp only [List.length_cons] at h2
              exact ih g _ _ _ (by rw [List.length_drop]; simp only [List.length_cons]; omega) (by rw [List.length_drop]; simp only [List.length_cons]; omega)
            · split
              · rfl
              · rename_i k n h
                have h1 := firstT_ok h
                simp only [List.length_cons] at h1
                rw [ih g _ _ _ (by rw [List.length_drop]; simp only [List.length_cons]; omega) (by rw [List.length_drop]; simp only [List.length_cons]; omega)]
def tokens (s : List UInt8) : Toks := toks (s.length + 1) s 1 1
end Bn

/- Tokens of joined texts: plain. -/
namespace Bn
def sepB (c : UInt8) : Bool := c == 32 || c == 9 || c == 10 || c == 13 || c == 37
def SepE (e : List UInt8) : Prop := e = [] ∨ ∃ c t, e = c :: t ∧ sepB c = true
theorem sepB_not {c : UInt8} (h : sepB c = true) : isPart c = false ∧ isDg c = false ∧ (c == 46) = false ∧ (c == 47) = false ∧ isLet c = false ∧ (c == 95) = false := by
  unfold sepB at h
  simp only [Bool.or_eq_true, beq_iff_eq] at h
  rcases h with (((h | h) | h) | h) | h <;> subst h <;> decide
theorem tw_all {p : UInt8 → Bool} : ∀ (l : List UInt8), (l.takeWhile p).all p = true := by
  intro l
  induction l with
  | nil => rfl
  | cons x r ih =>
    rw [List.takeWhile_cons]
    split
    · rename_i h; rw [List.all_cons, h, ih]; rfl
    · rfl
theorem tw_app {p : UInt8 → Bool} : ∀ {a : List UInt8} (e : List UInt8), a.all p = true → (∀ c t, e = c :: t → p c = false) → (a ++ e).takeWhile p = a := by
  intro a
  induction a with
  | nil =>
    intro e _ he
    cases e with
    | nil => rfl
    | cons c t => rw [List.nil_append, List.takeWhile_cons, he c t rfl]; rfl
  | cons x r ih =>
    intro e h he
    rw [List.all_cons, Bool.and_eq_true] at h
    rw [List.cons_append, List.takeWhile_cons, h.1, if_pos rfl, ih e h.2 he]
theorem tw_split (p : UInt8 → Bool) (l : List UInt8) : ∃ d, l = l.takeWhile p ++ d ∧ (∀ c t, d = c :: t → p c = false) := by
  refine ⟨l.dropWhile p, (List.takeWhile_append_dropWhile).symm, fun c t h => ?_⟩
  induction l with
  | nil => simp at h
  | cons x r ih =>
    rw [List.dropWhile_cons] at h
    split at h
    · exact ih h
    · injection h with h1 _; subst h1; simp_all
theorem SepE.np {e : List UInt8} (h : SepE e) (c : UInt8) (t : List UInt8) (he : e = c :: t) : sepB c = true := by
  rcases h with h | ⟨c', t', h, hs⟩
  · rw [h] at he; cases he
  · rw [h] at he; injection he with h1 _; rw [← h1]; exact hs
theorem dg_no10 {l : List UInt8} (h : l.all isDg = true) : 10 ∉ l := fun h1 => by
  rw [List.all_eq_true] at h
  exact absurd (h 10 h1) (by decide)
theorem tail_form (r : List UInt8) : ∃ M d, r = M ++ d ∧ tailN r = M.length ∧ 10 ∉ M ∧ ∀ e, SepE e → tailN (M ++ e) = M.length ∧ (∀ c t, M ++ e = c :: t → isDg c = false) := by
  have hs : ∀ e, SepE e → tailN ([] ++ e) = 0 ∧ (∀ c t, ([] : List UInt8) ++ e = c :: t → isDg c = false) := by
    intro e he
    rw [List.nil_append]
    refine ⟨?_, fun c t h => (sepB_not (he.np c t h)).2.1⟩
    cases e with
    | nil => rfl
    | cons c t =>
      have := sepB_not (he.np c t rfl)
      rw [tailN, this.2.2.1, this.2.2.2.1]; rfl
  cases r with
  | nil => exact ⟨[], [], rfl, rfl, by simp, hs⟩
  | cons c t =>
    by_cases h : ((c == 46 || c == 47) && decide (0 < digN t)) = true
    · obtain ⟨d, h1, h2⟩ := tw_split isDg t
      have h3 : (c == 46 || c == 47) = true := by rw [Bool.and_eq_true] at h; exact h.1
      have h4 : 0 < digN t := by rw [Bool.and_eq_true, decide_eq_true_eq] at h; exact h.2
      refine ⟨c :: t.takeWhile isDg, d, by rw [List.cons_append, ← h1], ?_, ?_, ?_⟩
      · rw [tailN, h, if_pos rfl, List.length_cons]; unfold digN; omega
      · intro h6
        rcases List.mem_cons.1 h6 with e | e
        · subst e; exact absurd h3 (by decide)
        · exact dg_no10 (tw_all t) e
      · intro e he
        have h5 : digN (t.takeWhile isDg ++ e) = (t.takeWhile isDg).length := by
          unfold digN
          rw [tw_app e (tw_all t) (fun c t h => (sepB_not (he.np c t h)).2.1)]
        refine ⟨?_, fun c' t' h' => ?_⟩
        · rw [List.cons_append, tailN, h5, h3]
          have : 0 < (t.takeWhile isDg).length := h4
          rw [if_pos (by simp; exact this), List.length_cons]; omega
        · injection h' with h6 _
          subst h6
          rw [Bool.or_eq_true, beq_iff_eq, beq_iff_eq] at h3
          rcases h3 with e | e <;> subst e <;> decide
    · have h' : ((c == 46 || c == 47) && decide (0 < digN t)) = false := by simpa using h
      exact ⟨[], c :: t, rfl, by rw [tailN, h']; rfl, by simp, hs⟩
theorem minN_digit {c : UInt8} {t : List UInt8} (h : isDg c = true) : minN (c :: t) = 0 := by
  unfold minN
  split
  · rename_i h1; injection h1 with h1 _; subst h1; exact absurd h (by decide)
  · rfl
theorem num_form {r : List UInt8} (h : 0 < numN r) : ∃ P d c t, r = P ++ d ∧ P.length = numN r ∧ P = c :: t ∧ (isDg c = true ∨ c = 45) ∧ 10 ∉ P ∧ ∀ e, SepE e → numN (P ++ e) = P.length := by
  have hk : 0 < digN (r.drop (minN r)) := by
    rcases Nat.eq_zero_or_pos (digN (r.drop (minN r))) with e | e
    · unfold numN at h; rw [if_pos e] at h; omega
    · exact e
  obtain ⟨d0, e0, g0⟩ := tw_split isDg (r.drop (minN r))
  obtain ⟨D, hD⟩ : ∃ D, (r.drop (minN r)).takeWhile isDg = D := ⟨_, rfl⟩
  have hDa : D.all isDg = true := by rw [← hD]; exact tw_all _
  have hDl : digN (r.drop (minN r)) = D.length := by unfold digN; rw [hD]
  rw [hD] at e0
  rw [hDl] at hk
  obtain ⟨x, D', hx⟩ : ∃ x D', D = x :: D' := by
    cases D with
    | nil => simp at hk
    | cons x D' => exact ⟨x, D', rfl⟩
  have hxd : isDg x = true := by rw [hx, List.all_cons, Bool.and_eq_true] at hDa; exact hDa.1
  have hdd : (r.drop (minN r)).drop D.length = d0 := by rw [e0]; simp
  obtain ⟨M, d, e1, e2, e10, e3⟩ := tail_form d0
  have hn : numN r = minN r + D.length + M.length := by
    unfold numN
    rw [hDl, if_neg (by omega), ← List.drop_drop, hdd, e2]
  have hmin : (minN r = 0 ∧ r = D ++ d0) ∨ (minN r = 1 ∧ r = 45 :: (D ++ d0)) := by
    cases r with
    | nil => simp [minN] at e0; left; exact ⟨rfl, by simpa using e0⟩
    | cons c t =>
      by_cases hc : c = 45
      · subst hc; right; refine ⟨rfl, ?_⟩
        have : minN (45 :: t) = 1 := rfl
        rw [this] at e0
        simp at e0
        rw [← e0]
      · left
        have : minN (c :: t) = 0 := by
          unfold minN; split
          · rename_i h1; injection h1 with h1 _; exact absurd h1 hc
          · rfl
        refine ⟨this, ?_⟩
        rw [this] at e0
        simpa using e0
  have key : ∀ e, SepE e → digN (D ++ (M ++ e)) = D.length ∧ tailN (M ++ e) = M.length := by
    intro e he
    obtain ⟨h1, h2⟩ := e3 e he
    refine ⟨?_, h1⟩
    unfold digN
    rw [tw_app (M ++ e) hDa h2]
  rcases hmin with ⟨m0, hr⟩ | ⟨m1, hr⟩
  · refine ⟨D ++ M, d, x, D' ++ M, by rw [hr, e1, List.append_assoc], by rw [hn, m0, List.length_append]; omega, by rw [hx]; rfl, .inl hxd, fun h => by rcases List.mem_append.1 h with h | h; exact dg_no10 hDa h; exact e10 h, fun e he => ?_⟩
    obtain ⟨h1, h2⟩ := key e he
    have hm : minN (D ++ M ++ e) = 0 := by rw [hx]; exact minN_digit hxd
    unfold numN
    rw [hm, List.drop_zero, List.append_assoc, h1, if_neg (by omega), Nat.zero_add, List.drop_left, h2, List.length_append]
  · refine ⟨45 :: (D ++ M), d, 45, D ++ M, by rw [hr, e1, List.cons_append, List.append_assoc], by rw [hn, m1, List.length_cons, List.length_append]; omega, rfl, .inr rfl, fun h => by rcases List.mem_cons.1 h with h | h; exact absurd h (by decide); rcases List.mem_append.1 h with h | h; exact dg_no10 hDa h; exact e10 h, fun e he => ?_⟩
    obtain ⟨h1, h2⟩ := key e he
    have hm : minN (45 :: (D ++ M) ++ e) = 1 := rfl
    unfold numN
    rw [hm]
    rw [show (45 :: (D ++ M) ++ e).drop 1 = D ++ (M ++ e) by simp]
    rw [h1, if_neg (by omega), ← List.drop_drop]
    rw [show (45 :: (D ++ M) ++ e).drop 1 = D ++ (M ++ e) by simp]
    rw [List.drop_left, h2, List.length_cons, List.length_append]
    omega
theorem first_no10 {r : List UInt8} {k n : Nat} (h : firstT r = .ok k n) : 10 ∉ r.take n := by
  unfold firstT at h
  split at h
  · cases h
  · rename_i c t
    split at h
    · rename_i hs
      injection h with h1 h2; subst h2
      intro h3
      have h4 : (10 : UInt8) = c := by simpa using h3
      subst h4; exact absurd hs (by decide)
    · split at h
      · rename_i hw
        split at h
        · cases h
        · injection h with h1 h2
          have hl : isLet c = true := by
            rw [wordN] at hw; split at hw
            · assumption
            · omega
          have hwn : wordN (c :: t) = 1 + (t.takeWhile isPart).length := by rw [wordN, hl, if_pos rfl]
          obtain ⟨d, e1, _⟩ := tw_split isPart t
          have ht : (c :: t).take n = c :: t.takeWhile isPart := by
            rw [← h2, hwn, Nat.add_comm, List.take_succ_cons]
            congr 1
            exact (congrArg (List.take _) e1).trans List.take_left
          rw [ht]
          intro h3
          rcases List.mem_cons.1 h3 with e | e
          · subst e; exact absurd hl (by decide)
          · have := tw_all (p := isPart) t
            rw [List.all_eq_true] at this
            exact absurd (this 10 e) (by decide)
      · split at h
        · cases h
        · rename_i hn0
          split at h
          · cases h
          · split at h
            · cases h
            · injection h with h1 h2
              obtain ⟨P, d, x, P', e1, e2, e3, e4, e10, e5⟩ := num_form (Nat.pos_of_ne_zero hn0)
              have hP : (c :: t).take n = P := by rw [← h2, ← e2, e1]; exact List.take_left
              rw [hP]; exact e10
end Bn

/- Tokens of joined texts, blanks and comments between them: plain. -/
namespace Bn
def tk (r : List UInt8) (line col : Nat) : Toks := toks (r.length + 1) r line col
theorem tk_nil (line col : Nat) : tk [] line col = .ok [] := rfl
theorem tk_line (t : List UInt8) (line col : Nat) : tk (10 :: t) line col = tk t (line + 1) 1 := by
  unfold tk
  rw [List.length_cons]
  conv => lhs; unfold toks
  rw [if_pos rfl]
theorem isBlk_not {c : UInt8} (h : isBlk c = true) : c ≠ 10 := by
  rintro rfl; exact absurd h (by decide)
theorem tk_blank {c : UInt8} (h : isBlk c = true) (t : List UInt8) (line col : Nat) : tk (c :: t) line col = tk t line (col + 1) := by
  unfold tk
  rw [List.length_cons]
  conv => lhs; unfold toks
  rw [if_neg (isBlk_not h), if_pos h]
theorem tk_com (t : List UInt8) (line col : Nat) : tk (37 :: t) line col = tk ((37 :: t).drop (comN (37 :: t))) line (col + comN (37 :: t)) := by
  have h1 := comN_pos (t := t)
  have h2 := comN_le (37 :: t)
  unfold tk
  conv => lhs; rw [List.length_cons]; unfold toks
  rw [if_neg (by decide), if_neg (by decide), if_pos rfl]
  simp only [List.length_cons] at h2
  refine toks_fuel _ _ _ _ _ ?_ ?_ <;> rw [List.length_drop, List.length_cons] <;> omega
theorem firstT_head {c : UInt8} {t : List UInt8} {k n : Nat} (h : firstT (c :: t) = .ok k n) : c ≠ 10 ∧ isBlk c = false ∧ c ≠ 37 := by
  have key : ∀ c : UInt8, isSgn c = false → isLet c = false → isDg c = false → c ≠ 45 → ∀ t k n, firstT (c :: t) ≠ .ok k n := by
    intro c h1 h2 h3 h4 t k n h
    have hw : wordN (c :: t) = 0 := by rw [wordN, h2]; rfl
    have hm : minN (c :: t) = 0 := by
      unfold minN; split
      · rename_i h5; injection h5 with h5 _; exact absurd h5 h4
      · rfl
    have hn : numN (c :: t) = 0 := by
      unfold numN
      rw [hm, List.drop_zero, if_pos (by unfold digN; rw [List.takeWhile_cons, h3]; rfl)]
    unfold firstT at h
    simp [h1, hw, hn] at h
  refine ⟨?_, ?_, ?_⟩
  · rintro rfl; exact key 10 (by decide) (by decide) (by decide) (by decide) t k n h
  · cases hb : isBlk c
    · rfl
    · exfalso
      unfold isBlk at hb
      simp only [Bool.or_eq_true, beq_iff_eq] at hb
      rcases hb with (e | e) | e <;> subst e
      · exact key 32 (by decide) (by decide) (by decide) (by decide) t k n h
      · exact key 9 (by decide) (by decide) (by decide) (by decide) t k n h
      · exact key 13 (by decide) (by decide) (by decide) (by decide) t k n h
  · rintro rfl; exact key 37 (by decide) (by decide) (by decide) (by decide) t k n h
theorem tk_tok {c : UInt8} {t : List UInt8} {k n : Nat} (h : firstT (c :: t) = .ok k n) (line col : Nat) :
    tk (c :: t) line col = (tk ((c :: t).drop n) line (col + n)).push ⟨k, (c :: t).take n, line, col⟩ := by
  obtain ⟨h1, h2, h3⟩ := firstT_head h
  have h4 := firstT_ok h
  unfold tk
  conv => lhs; rw [List.length_cons]; unfold toks
  rw [if_neg h1, if_neg (by rw [h2]; simp), if_neg h3, h]
  simp only [List.length_cons] at h4
  dsimp only
  rw [toks_fuel (t.length + 1) (((c :: t).drop n).length + 1) _ _ _ (by rw [List.length_drop, List.length_cons]; omega) (by omega)]
theorem tk_err {c : UInt8} {t : List UInt8} {x : Nat} (h : firstT (c :: t) = .err x) (h1 : c ≠ 10) (h2 : isBlk c = false) (h3 : c ≠ 37) (line col : Nat) : tk (c :: t) line col = .err x := by
  unfold tk
  rw [List.length_cons]
  unfold toks
  rw [if_neg h1, if_neg (by rw [h2]; simp), if_neg h3, h]
def Skip (s : List UInt8) : Prop := ∀ rest line col, ∃ line' col', tk (s ++ rest) line col = tk rest line' col'
theorem Skip.nil : Skip [] := fun _ line col => ⟨line, col, rfl⟩
theorem Skip.line {s : List UInt8} (h : Skip s) : Skip (10 :: s) := fun rest line col => by
  obtain ⟨a, b, e⟩ := h rest (line + 1) 1
  exact ⟨a, b, by rw [List.cons_append, tk_line, e]⟩
theorem Skip.blank {c : UInt8} {s : List UInt8} (hc : isBlk c = true) (h : Skip s) : Skip (c :: s) := fun rest line col => by
  obtain ⟨a, b, e⟩ := h rest line (col + 1)
  exact ⟨a, b, by rw [List.cons_append, tk_blank hc, e]⟩
end Bn

/- Every token stands at its place: plain. -/
namespace Bn
def After (line col : Nat) (t : Tkn) : Prop := line < t.line ∨ (line = t.line ∧ col ≤ t.col)
theorem After.mono {line col col' : Nat} {t : Tkn} (h : After line col' t) (hc : col ≤ col') : After line col t := by
  rcases h with h | ⟨h, h1⟩
  · exact .inl h
  · exact .inr ⟨h, Nat.le_trans hc h1⟩
theorem toks_after : ∀ (f : Nat) (r : List UInt8) (line col : Nat) (l : List Tkn), toks f r line col = .ok l → ∀ t ∈ l, After line col t := by
  intro f
  induction f with
  | zero => intro r line col l h t ht; unfold toks at h; injection h with h; subst h; cases ht
  | succ f ih =>
    intro r line col l h t ht
    cases r with
    | nil => unfold toks at h; injection h with h; subst h; cases ht
    | cons c s =>
      unfold toks at h
      split at h
      · rcases ih _ _ _ _ h t ht with e | ⟨e, _⟩
        · exact .inl (by omega)
        · exact .inl (by omega)
      · split at h
        · exact (ih _ _ _ _ h t ht).mono (by omega)
        · split at h
          · exact (ih _ _ _ _ h t ht).mono (by omega)
          · split at h
            · cases h
            · rename_i k n hf
              cases hx : toks f ((c :: s).drop n) line (col + n) with
              | err x => rw [hx] at h; cases h
              | ok l' =>
                rw [hx] at h
                injection h with h
                subst h
                rcases List.mem_cons.1 ht with e | e
                · subst e; exact .inr ⟨rfl, Nat.le_refl _⟩
                · exact (ih _ _ _ _ hx t e).mono (by omega)
def PlI (s : List UInt8) (l : List Tkn) (i line col k left : Nat) : Prop := k ≤ l.length ∧ ∃ u rest, s.drop i = u ++ rest ∧ 10 ∉ u ∧ tk rest line (col + u.length) = .ok (l.drop k) ∧ (left = u.length ∨ left = 0)
theorem PlI.start {s : List UInt8} {l : List Tkn} (h : tokens s = .ok l) : PlI s l 0 1 1 0 0 := ⟨Nat.zero_le _, [], s, rfl, by simp, h, .inr rfl⟩
theorem PlI.fin {s : List UInt8} {l : List Tkn} {line col k left : Nat} (h : PlI s l s.length line col k left) : k = l.length := by
  obtain ⟨hk, u, rest, h1, _, h2, _⟩ := h
  rw [List.drop_length] at h1
  have h3 := List.append_eq_nil_iff.1 h1.symm
  rw [h3.2, tk_nil] at h2
  injection h2 with h2
  have := congrArg List.length h2
  rw [List.length_drop] at this
  simp at this; omega
def meets (l : List Tkn) (line col k left : Nat) : Bool := decide (left = 0) && (match l[k]? with | some t => decide (t.line = line) && decide (t.col = col) | none => false)
def nextLine (c : UInt8) (line : Nat) : Nat := if c = 10 then line + 1 else line
def nextCol (c : UInt8) (col : Nat) : Nat := if c = 10 then 1 else col + 1
theorem meets_no {l : List Tkn} {line col k left : Nat} {line' col' : Nat} (h : ∀ t ∈ l.drop k, After line' col' t) (hp : line < line' ∨ (line = line' ∧ col < col')) : meets l line col k left = false := by
  unfold meets
  cases hk : l[k]? with
  | none => simp
  | some t =>
    have hm : t ∈ l.drop k := by
      obtain ⟨h1, h2⟩ := List.getElem?_eq_some_iff.1 hk
      rw [List.drop_eq_getElem_cons h1, h2]; simp
    have := h t hm
    have h3 : ¬ (t.line = line ∧ t.col = col) := by
      rintro ⟨a, b⟩
      rcases this with e | ⟨e, e2⟩ <;> rcases hp with g | ⟨g, g2⟩ <;> omega
    simp only [Bool.and_eq_false_iff, decide_eq_false_iff_not]
    right
    by_cases ha : t.line = line
    · right; exact fun hb => h3 ⟨ha, hb⟩
    · left; exact ha
theorem PlI.inner {s : List UInt8} {l : List Tkn} {i line col k left : Nat} {c : UInt8} {t u rest : List UInt8} (hk : k ≤ l.length) (hd : s.drop i = c :: t) (h1 : s.drop i = u ++ rest) (hu : 10 ∉ u) (h2 : tk rest line (col + u.length) = .ok (l.drop k)) (h3 : left = u.length ∨ left = 0) (hne : u ≠ []) :
    meets l line col k left = false ∧ PlI s l (i + 1) (nextLine c line) (nextCol c col) k (left - 1) := by
  obtain ⟨x, u', rfl⟩ := List.exists_cons_of_ne_nil hne
  have hx : x = c ∧ t = u' ++ rest := by rw [hd] at h1; injection h1 with a b; exact ⟨a.symm, b⟩
  obtain ⟨rfl, ht⟩ := hx
  have hx10 : x ≠ 10 := fun e => hu (by rw [e]; simp)
  rw [List.length_cons] at h2 h3
  have hd1 : s.drop (i + 1) = t := by rw [← List.drop_drop, hd]; rfl
  refine ⟨meets_no (toks_after _ _ _ _ _ h2) (.inr ⟨rfl, by omega⟩), hk, u', rest, by rw [hd1, ht], fun h => hu (by simp [h]), ?_, by omega⟩
  unfold nextLine nextCol
  rw [if_neg hx10, if_neg hx10, show col + 1 + u'.length = col + (u'.length + 1) by omega]
  exact h2
theorem PlI.step {s : List UInt8} {l : List Tkn} {i line col k left : Nat} (h : PlI s l i line col k left) {c : UInt8} {t : List UInt8} (hd : s.drop i = c :: t) :
    (meets l line col k left = false ∧ PlI s l (i + 1) (nextLine c line) (nextCol c col) k (left - 1)) ∨
    (meets l line col k left = true ∧ ∃ x, l[k]? = some x ∧ 0 < x.text.length ∧ i + x.text.length ≤ s.length ∧ (s.drop i).take x.text.length = x.text ∧ PlI s l (i + 1) (nextLine c line) (nextCol c col) (k + 1) (x.text.length - 1)) := by
  obtain ⟨hk, u, rest, h1, hu, h2, h3⟩ := h
  by_cases hne : u = []
  · subst hne
    rw [List.nil_append] at h1
    rw [List.length_nil, Nat.add_zero] at h2
    have hl0 : left = 0 := by rcases h3 with e | e <;> simpa using e
    subst hl0
    have hd1 : s.drop (i + 1) = t := by rw [← List.drop_drop, hd]; rfl
    have hr : rest = c :: t := by rw [← h1, hd]
    subst hr
    by_cases h10 : c = 10
    · subst h10
      rw [tk_line] at h2
      left
      refine ⟨meets_no (toks_after _ _ _ _ _ h2) (.inl (by omega)), hk, [], t, by rw [hd1]; rfl, by simp, ?_, .inr rfl⟩
      exact h2
    · by_cases hb : isBlk c = true
      · rw [tk_blank hb] at h2
        left
        refine ⟨meets_no (toks_after _ _ _ _ _ h2) (.inr ⟨rfl, by omega⟩), hk, [], t, by rw [hd1]; rfl, by simp, ?_, .inr rfl⟩
        unfold nextLine nextCol
        rw [if_neg h10, if_neg h10]
        exact h2
      · by_cases h37 : c = 37
        · subst h37
          rw [tk_com] at h2
          left
          have hp := comN_pos (t := t)
          have hle := comN_le (37 :: t)
          have hlen : ((37 :: t).take (comN (37 :: t))).length = comN (37 :: t) := by rw [List.length_take]; omega
          refine PlI.inner hk hd (h1.trans (List.take_append_drop _ _).symm) ?_ (by rw [hlen]; exact h2) (.inr rfl) (fun e => by rw [e] at hlen; simp at hlen; omega)
          intro hm
          have : (37 :: t).take (comN (37 :: t)) = (37 :: t).takeWhile (fun c => c != 10) := by
            obtain ⟨d, e, _⟩ := tw_split (fun c => c != 10) (37 :: t)
            exact (congrArg (List.take _) e).trans List.take_left
          rw [this] at hm
          have h4 := tw_all (p := fun c => c != 10) (37 :: t)
          rw [List.all_eq_true] at h4
          exact absurd (h4 10 hm) (by decide)
        · cases hf : firstT (c :: t) with
          | err x => rw [tk_err hf h10 (by simpa using hb) h37] at h2; cases h2
          | ok kk n =>
            rw [tk_tok hf] at h2
            have hn := firstT_ok hf
            cases hx : tk ((c :: t).drop n) line (col + n) with
            | err x => rw [hx] at h2; cases h2
            | ok l' =>
              rw [hx] at h2
              injection h2 with h2
              have hkl : k < l.length := by
                rcases Nat.lt_or_ge k l.length with e | e
                · exact e
                · rw [List.drop_eq_nil_of_le e] at h2; cases h2
              rw [List.drop_eq_getElem_cons hkl] at h2
              injection h2 with h4 h5
              have hlt : ((c :: t).take n).length = n := by rw [List.length_take]; omega
              right
              have hg : l[k]? = some ⟨kk, (c :: t).take n, line, col⟩ := by rw [List.getElem?_eq_getElem hkl, h4]
              have hlen : i + n ≤ s.length := by
                have := congrArg List.length hd
                rw [List.length_drop] at this
                have h7 : (c :: t).length ≤ s.length - i := by omega
                have h8 : 0 < (c :: t).length := by simp
                omega
              refine ⟨?_, ⟨kk, (c :: t).take n, line, col⟩, hg, by dsimp only; omega, by dsimp only; omega, by dsimp only; rw [hlt, hd], ?_⟩
              · unfold meets; rw [hg]; simp
              · dsimp only
                rw [hlt]
                obtain ⟨m, rfl⟩ : ∃ m, n = m + 1 := ⟨n - 1, by omega⟩
                have hno := first_no10 hf
                rw [List.take_succ_cons] at hno
                refine ⟨by omega, t.take m, t.drop m, by rw [hd1, List.take_append_drop], fun h => hno (by simp [h]), ?_, .inl ?_⟩
                · unfold nextLine nextCol
                  rw [if_neg h10, if_neg h10]
                  have hm : (t.take m).length = m := by rw [List.length_take]; simp at hn; omega
                  rw [hm, ← h5]
                  rw [List.drop_succ_cons] at hx
                  rw [show col + 1 + m = col + (m + 1) by omega]
                  exact hx
                · rw [List.length_take]; simp at hn; omega
  · exact .inl (PlI.inner hk hd h1 hu h2 h3 hne)
end Bn

/- Walks: tokens: what a byte is. -/
namespace Go.Proofs.YtjanfdkbficmbaaGreatDoor
open Go Go.RowKit Bn
attribute [local go_sem ↓] Go.wp_at_zero Go.wp_at_succ
theorem beq_nat (c d : UInt8) : (c == d) = decide (c.toNat = d.toNat) := by
  by_cases h : c = d
  · subst h; simp
  · rw [beq_eq_false_iff_ne.2 h, decide_eq_false (fun e => h (UInt8.toNat.inj e))]
theorem isLet_nat (c : UInt8) : isLet c = ((decide (97 ≤ c.toNat) && decide (c.toNat ≤ 122)) || (decide (65 ≤ c.toNat) && decide (c.toNat ≤ 90))) := rfl
theorem isDg_nat (c : UInt8) : isDg c = (decide (48 ≤ c.toNat) && decide (c.toNat ≤ 57)) := rfl
theorem isSgn_nat (c : UInt8) : isSgn c = (decide (c.toNat = 123) || decide (c.toNat = 125) || decide (c.toNat = 59) || decide (c.toNat = 46)) := by unfold isSgn; rw [beq_nat, beq_nat, beq_nat, beq_nat]; rfl
theorem t_letter (w : World) (c : UInt8) (v : Bool) (hv : isLet c = v) : Calls Tryz.prog 29 #[.int .u8 (c.toNat : Nat)] w (RetV w (.bool v)) := by
 have hc : c.toNat < 256 := c.toNat_lt
 obtain ⟨n, hn⟩ : ∃ n, c.toNat = n := ⟨_, rfl⟩
 rw [hn] at hc ⊢
 have hd : v = ((decide (97 ≤ n) && decide (n ≤ 122)) || (decide (65 ≤ n) && decide (n ≤ 90))) := by rw [← hv, isLet_nat, hn]
 clear hv
 rcases (show (0 ≤ n ∧ n ≤ 64) ∨ (65 ≤ n ∧ n ≤ 90) ∨ (91 ≤ n ∧ n ≤ 96) ∨ (97 ≤ n ∧ n ≤ 122) ∨ (123 ≤ n ∧ n ≤ 255) by omega) with ⟨ha, hb⟩ | ⟨ha, hb⟩ | ⟨ha, hb⟩ | ⟨ha, hb⟩ | ⟨ha, hb⟩
 ·have ege97 : ((97 : Int) ≤ (n : Int)) = False := by simp; omega
  have ele122 : ((n : Int) ≤ 122) = True := by simp; omega
  have ege65 : ((65 : Int) ≤ (n : Int)) = False := by simp; omega
  have ele90 : ((n : Int) ≤ 90) = True := by simp; omega
  obtain rfl : v = false := by rw [hd]; simp; omega
  clear hd hn
  go_enter Tryz.func29, Tryz.ntmps29
  go_wp2_with fail
  go_ret
  exact retB rfl (brefl w)
 ·have ege97 : ((97 : Int) ≤ (n : Int)) = False := by simp; omega
  have ele122 : ((n : Int) ≤ 122) = True := by simp; omega
  have ege65 : ((65 : Int) ≤ (n : Int)) = True := by simp; omega
  have ele90 : ((n : Int) ≤ 90) = True := by simp; omega
  obtain rfl : v = true := by rw [hd]; simp; omega
  clear hd hn
  go_enter Tryz.func29, Tryz.ntmps29
  go_wp2_with fail
  go_ret
  exact retB rfl (brefl w)
 ·have ege97 : ((97 : Int) ≤ (n : Int)) = False := by simp; omega
  have ele122 : ((n : Int) ≤ 122) = True := by simp; omega
  have ege65 : ((65 : Int) ≤ (n : Int)) = True := by simp; omega
  have ele90 : ((n : Int) ≤ 90) = False := by simp; omega
  obtain rfl : v = false := by rw [hd]; simp; omega
  clear hd hn
  go_enter Tryz.func29, Tryz.ntmps29
  go_wp2_with fail
  go_ret
  exact retB rfl (brefl w)
 ·have ege97 : ((97 : Int) ≤ (n : Int)) = True := by simp; omega
  have ele122 : ((n : Int) ≤ 122) = True := by simp; omega
  have ege65 : ((65 : Int) ≤ (n : Int)) = True := by simp; omega
  have ele90 : ((n : Int) ≤ 90) = False := by simp; omega
  obtain rfl : v = true := by rw [hd]; simp; omega
  clear hd hn
  go_enter Tryz.func29, Tryz.ntmps29
  go_wp2_with fail
  go_ret
  exact retB rfl (brefl w)
 ·have ege97 : ((97 : Int) ≤ (n : Int)) = True := by simp; omega
  have ele122 : ((n : Int) ≤ 122) = False := by simp; omega
  have ege65 : ((65 : Int) ≤ (n : Int)) = True := by simp; omega
  have ele90 : ((n : Int) ≤ 90) = False := by simp; omega
  obtain rfl : v = false := by rw [hd]; simp; omega
  clear hd hn
  go_enter Tryz.func29, Tryz.ntmps29
  go_wp2_with fail
  go_ret
  exact retB rfl (brefl w)
theorem t_digit (w : World) (c : UInt8) (v : Bool) (hv : isDg c = v) : Calls Tryz.prog 56 #[.int .u8 (c.toNat : Nat)] w (RetV w (.bool v)) := by
 have hc : c.toNat < 256 := c.toNat_lt
 obtain ⟨n, hn⟩ : ∃ n, c.toNat = n := ⟨_, rfl⟩
 rw [hn] at hc ⊢
 have hd : v = (decide (48 ≤ n) && decide (n ≤ 57)) := by rw [← hv, isDg_nat, hn]
 clear hv
 rcases (show (0 ≤ n ∧ n ≤ 47) ∨ (48 ≤ n ∧ n ≤ 57) ∨ (58 ≤ n ∧ n ≤ 255) by omega) with ⟨ha, hb⟩ | ⟨ha, hb⟩ | ⟨ha, hb⟩
 ·have ege48 : ((48 : Int) ≤ (n : Int)) = False := by simp; omega
  have ele57 : ((n : Int) ≤ 57) = True := by simp; omega
  obtain rfl : v = false := by rw [hd]; simp; omega
  clear hd hn
  go_enter Tryz.func56, Tryz.ntmps56
  go_wp2_with fail
  go_ret
  exact retB rfl (brefl w)
 ·have ege48 : ((48 : Int) ≤ (n : Int)) = True := by simp; omega
  have ele57 : ((n : Int) ≤ 57) = True := by simp; omega
  obtain rfl : v = true := by rw [hd]; simp; omega
  clear hd hn
  go_enter Tryz.func56, Tryz.ntmps56
  go_wp2_with fail
  go_ret
  exact retB rfl (brefl w)
 ·have ege48 : ((48 : Int) ≤ (n : Int)) = True := by simp; omega
  have ele57 : ((n : Int) ≤ 57) = False := by simp; omega
  obtain rfl : v = false := by rw [hd]; simp; omega
  clear hd hn
  go_enter Tryz.func56, Tryz.ntmps56
  go_wp2_with fail
  go_ret
  exact retB rfl (brefl w)
end Go.Proofs.YtjanfdkbficmbaaGreatDoor

/- Walks: tokens: words, digits. -/
namespace Go.Proofs.YtjanfdkbficmbaaGreatDoor
open Go Go.RowKit Bn
attribute [local go_sem ↓] Go.wp_at_zero Go.wp_at_succ
def atB (s : List UInt8) (i : Nat) : UInt8 := s.getD i 0
theorem atB_lt {s : List UInt8} {i : Nat} (h : i < s.length) : atB s i = s[i] := by unfold atB; rw [List.getD_eq_getElem?_getD, List.getElem?_eq_getElem h]; rfl
theorem atB_ge {s : List UInt8} {i : Nat} (h : s.length ≤ i) : atB s i = 0 := by unfold atB; rw [List.getD_eq_getElem?_getD, List.getElem?_eq_none h]; rfl
theorem drop_at {s : List UInt8} {i : Nat} (h : i < s.length) : s.drop i = atB s i :: s.drop (i + 1) := by rw [atB_lt h]; exact List.drop_eq_getElem_cons h
theorem tw_step {p : UInt8 → Bool} {s : List UInt8} {i : Nat} (hp : p 0 = false) (h : p (atB s i) = true) : i < s.length ∧ ((s.drop i).takeWhile p).length = 1 + ((s.drop (i + 1)).takeWhile p).length := by
  have hl : i < s.length := by
    rcases Nat.lt_or_ge i s.length with x | x
    · exact x
    · rw [atB_ge x, hp] at h; cases h
  refine ⟨hl, ?_⟩
  rw [drop_at hl, List.takeWhile_cons, if_pos h, List.length_cons]; omega
theorem tw_stop {p : UInt8 → Bool} {s : List UInt8} {i : Nat} (h : p (atB s i) = false) : ((s.drop i).takeWhile p).length = 0 := by
  rcases Nat.lt_or_ge i s.length with x | x
  · rw [drop_at x, List.takeWhile_cons, if_neg (by rw [h]; decide)]; rfl
  · rw [List.drop_eq_nil_of_le x]; rfl
theorem wordN_at {s : List UInt8} {i : Nat} (h : isLet (atB s i) = true) : i < s.length ∧ wordN (s.drop i) = 1 + ((s.drop (i + 1)).takeWhile isPart).length := by
  have hl : i < s.length := by
    rcases Nat.lt_or_ge i s.length with x | x
    · exact x
    · rw [atB_ge x] at h; cases h
  refine ⟨hl, ?_⟩
  rw [drop_at hl, wordN, if_pos h]
theorem wordN_no {s : List UInt8} {i : Nat} (h : isLet (atB s i) = false) : wordN (s.drop i) = 0 := by
  rcases Nat.lt_or_ge i s.length with x | x
  · rw [drop_at x, wordN, if_neg (by rw [h]; decide)]
  · rw [List.drop_eq_nil_of_le x]; rfl
theorem isPart_1 {c : UInt8} (h : isLet c = true) : isPart c = true := by unfold isPart; rw [h]; rfl
theorem isPart_2 {c : UInt8} (h : isDg c = true) : isPart c = true := by unfold isPart; rw [h, Bool.or_true]; rfl
theorem isPart_3 {c : UInt8} (h : (c == 95) = true) : isPart c = true := by unfold isPart; rw [h, Bool.or_true]
theorem isPart_0 {c : UInt8} (h1 : isLet c = false) (h2 : isDg c = false) (h3 : (c == 95) = false) : isPart c = false := by unfold isPart; rw [h1, h2, h3]; rfl
theorem byte_eq (c d : UInt8) : (((c.toNat : Nat) : Int) == ((d.toNat : Nat) : Int)) = (c == d) := by
  by_cases h : c = d
  · subst h; simp
  · rw [beq_eq_false_iff_ne.2 h, beq_eq_false_iff_ne]
    intro e; exact h (UInt8.toNat.inj (by omega))
theorem t_part (w : World) (c : UInt8) (v : Bool) (hv : isPart c = v) : Calls Tryz.prog 54 #[.int .u8 (c.toNat : Nat)] w (RetV w (.bool v)) := by
 cases hl : isLet c
 ·cases hd : isDg c
  ·cases hu : (c == 95)
   ·obtain rfl : v = false := by rw [← hv]; exact isPart_0 hl hd hu
    have h95 : (((c.toNat : Nat) : Int) == 95) = false := (byte_eq c 95).trans hu
    clear hv hu
    go_enter Tryz.func54, Tryz.ntmps54
    go_wp2_with fail
    (with_reducible refine (t_letter _ c false hl).mono ?_); rintro e w1 ⟨rfl, q1⟩
    have bw1 := (brefl w).trans (q1.mono (brefl w).size)
    have lw1 := q1.size
    clear q1
    go_wp2_with fail
    (with_reducible refine (t_digit _ c false hd).mono ?_); rintro e w2 ⟨rfl, q2⟩
    have bw2 := bw1.trans (q2.mono bw1.size)
    have lw2 := q2.size
    clear q2 bw1
    go_wp2_with fail
    go_ret
    exact retB rfl bw2
   ·obtain rfl : v = true := by rw [← hv]; exact isPart_3 hu
    have h95 : (((c.toNat : Nat) : Int) == 95) = true := (byte_eq c 95).trans hu
    clear hv hu
    go_enter Tryz.func54, Tryz.ntmps54
    go_wp2_with fail
    (with_reducible refine (t_letter _ c false hl).mono ?_); rintro e w1 ⟨rfl, q1⟩
    have bw1 := (brefl w).trans (q1.mono (brefl w).size)
    have lw1 := q1.size
    clear q1
    go_wp2_with fail
    (with_reducible refine (t_digit _ c false hd).mono ?_); rintro e w2 ⟨rfl, q2⟩
    have bw2 := bw1.trans (q2.mono bw1.size)
    have lw2 := q2.size
    clear q2 bw1
    go_wp2_with fail
    go_ret
    exact retB rfl bw2
  ·obtain rfl : v = true := by rw [← hv]; exact isPart_2 hd
   clear hv
   go_enter Tryz.func54, Tryz.ntmps54
   go_wp2_with fail
   (with_reducible refine (t_letter _ c false hl).mono ?_); rintro e w1 ⟨rfl, q1⟩
   have bw1 := (brefl w).trans (q1.mono (brefl w).size)
   have lw1 := q1.size
   clear q1
   go_wp2_with fail
   (with_reducible refine (t_digit _ c true hd).mono ?_); rintro e w2 ⟨rfl, q2⟩
   have bw2 := bw1.trans (q2.mono bw1.size)
   have lw2 := q2.size
   clear q2 bw1
   go_wp2_with fail
   go_ret
   exact retB rfl bw2
 ·obtain rfl : v = true := by rw [← hv]; exact isPart_1 hl
  clear hv
  go_enter Tryz.func54, Tryz.ntmps54
  go_wp2_with fail
  (with_reducible refine (t_letter _ c true hl).mono ?_); rintro e w1 ⟨rfl, q1⟩
  have bw1 := (brefl w).trans (q1.mono (brefl w).size)
  have lw1 := q1.size
  clear q1
  go_wp2_with fail
  go_ret
  exact retB rfl bw1
theorem t_digits (w : World) (s : List UInt8) (i : Nat) (hi : i ≤ s.length) (hs : s.length < 4611686018427387904) (v : Nat) (hv : digN (s.drop i) = v) : Calls Tryz.prog 31 #[strV s, .int .i64 (i : Nat)] w (RetV w (.int .i64 (v : Nat))) := by
 have HV : Hid (0 + ((s.drop (i + 0)).takeWhile isDg).length = v) := Lib.hid (by rw [← hv, Nat.zero_add]; rfl)
 have hszs := size_v s
 clear hv
 go_enter Tryz.func31, Tryz.ntmps31
 go_wp2_with fail
 go_loopw [5] (fun iv wr => ∃ (j : Nat), iv = .int .i64 (j : Nat) ∧ i + j ≤ s.length ∧ Hid (j + ((s.drop (i + j)).takeWhile isDg).length = v) ∧ Kp w wr ∧ Below w.heap.size w wr ∧ w.heap.size ≤ wr.heap.size) (fun iv _ => s.length - (intOf iv).toNat)
 case atStart => exact ⟨0, rfl, hi, HV, Kp.refl _, (brefl w), Nat.le_refl _⟩
 case round =>
  obtain ⟨j, rfl, hj, hw, hkp, hbw, hlw⟩ := hrel
  have hw1 : IntKind.i64.wrap ((i : Int) + (j : Int)) = (i : Int) + (j : Int) := IntWalk.i64_in _ ⟨by omega, by omega⟩
  rcases Nat.lt_or_ge (i + j) s.length with hl | hl
  ·obtain ⟨d, hd⟩ : ∃ d, atB s (i + j) = d := ⟨_, rfl⟩
   have hi0 : (0 : Int) ≤ (i : Int) + (j : Int) := by omega
   have hi1 : (i : Int) + (j : Int) < (s.length : Int) := by omega
   have et : ((i : Int) + (j : Int)).toNat = i + j := by omega
   have hget : ∀ h, (⟨s.toArray⟩ : ByteArray)[i + j]'h = d := fun h => by rw [← hd]; exact (atB_lt hl).symm
   cases hg : isDg d
   ·have hjv : j = v := by rw [← hw.out, tw_stop (p := isDg) (by rw [hd]; exact hg)]; rfl
    subst hjv
    clear hd
    go_wp2_with fail
    (with_reducible refine (t_digit _ d false hg).mono ?_); rintro e w1 ⟨rfl, q1⟩
    replace hkp := hkp.below q1
    have bw1 := hbw.trans (q1.mono hbw.size)
    have lw1 := q1.size
    clear q1
    go_wp2_with fail
    go_ret
    exact ⟨rfl, bw1⟩
   ·obtain ⟨_, hst⟩ := tw_step (p := isDg) (s := s) (i := i + j) rfl (by rw [hd]; exact hg)
    have hw2 : Hid (j + 1 + ((s.drop (i + (j + 1))).takeWhile isDg).length = v) := Lib.hid (by rw [← hw.out, hst, Nat.add_assoc i j 1]; omega)
    clear hst hd
    go_wp2_with fail
    (with_reducible refine (t_digit _ d true hg).mono ?_); rintro e w1 ⟨rfl, q1⟩
    replace hkp := hkp.below q1
    have bw1 := hbw.trans (q1.mono hbw.size)
    have lw1 := q1.size
    clear q1
    go_wp2_with fail
    go_roundw
    case rel => exact ⟨j + 1, by go_num, by omega, hw2, hkp, bw1, by omega⟩
    case measure => simp [intOf]; omega
  ·have hjv : j = v := by rw [← hw.out, tw_stop (p := isDg) (by rw [atB_ge hl]; rfl)]; rfl
   subst hjv
   have hi1 : ((i : Int) + (j : Int) < (s.length : Int)) = False := by simp; omega
   go_wp2_with fail
   go_ret
   exact ⟨rfl, hbw⟩
theorem t_word (w : World) (s : List UInt8) (hs : s.length < 4611686018427387904) (v : Nat) (hv : wordN s = v) : Calls Tryz.prog 28 #[strV s] w (RetV w (.int .i64 (v : Nat))) := by
 have hszs := size_v s
 rcases Nat.eq_zero_or_pos s.length with h0 | h0
 ·obtain rfl : s = [] := List.eq_nil_of_length_eq_zero h0
  obtain rfl : 0 = v := hv
  clear hs
  go_enter Tryz.func28, Tryz.ntmps28
  go_wp2_with fail
  go_ret
  exact ⟨rfl, (brefl w)⟩
 ·obtain ⟨y, ys, hyy⟩ : ∃ y ys, s = y :: ys := List.exists_cons_of_length_pos h0
  have hBe : ((⟨s.toArray⟩ : ByteArray) == ⟨#[]⟩) = false := by rw [hyy]; rfl
  have hBl : (s == []) = false := by rw [hyy]; rfl
  have hBn : (s = []) = False := by rw [hyy]; simp
  clear hyy
  obtain ⟨d, hd⟩ : ∃ d, atB s 0 = d := ⟨_, rfl⟩
  have hget : ∀ h, (⟨s.toArray⟩ : ByteArray)[0]'h = d := fun h => by rw [← hd]; exact (atB_lt h0).symm
  have hi1 : (0 : Int) < (s.length : Int) := by omega
  cases hl : isLet d
  ·obtain rfl : 0 = v := by rw [← hv]; exact (wordN_no (s := s) (i := 0) (by rw [hd]; exact hl)).symm
   clear hd hv
   go_enter Tryz.func28, Tryz.ntmps28
   go_wp2_with fail
   (with_reducible refine (t_letter _ d false hl).mono ?_); rintro e w1 ⟨rfl, q1⟩
   have bw1 := (brefl w).trans (q1.mono (brefl w).size)
   have lw1 := q1.size
   clear q1
   go_wp2_with fail
   go_ret
   exact ⟨rfl, bw1⟩
  ·have HV : Hid (1 + ((s.drop 1).takeWhile isPart).length = v) := Lib.hid (by rw [← hv]; exact ((wordN_at (s := s) (i := 0) (by rw [hd]; exact hl)).2).symm)
   clear hv hd
   go_enter Tryz.func28, Tryz.ntmps28
   go_wp2_with fail
   (with_reducible refine (t_letter _ d true hl).mono ?_); rintro e w1 ⟨rfl, q1⟩
   have bw1 := (brefl w).trans (q1.mono (brefl w).size)
   have lw1 := q1.size
   clear q1
   go_wp2_with fail
   clear hget hl hi1 hBe hBl hBn
   go_loopw [3] (fun iv wr => ∃ (j : Nat), iv = .int .i64 (j : Nat) ∧ j ≤ s.length ∧ Hid (j + ((s.drop j).takeWhile isPart).length = v) ∧ Kp w1 wr ∧ Below w.heap.size w wr ∧ w1.heap.size ≤ wr.heap.size) (fun iv _ => s.length - (intOf iv).toNat)
   case atStart => exact ⟨1, rfl, h0, HV, Kp.refl _, bw1, Nat.le_refl _⟩
   case round =>
    obtain ⟨j, rfl, hj, hw, hkp, hbw, hlw⟩ := hrel
    rcases Nat.lt_or_ge j s.length with hl | hl
    ·obtain ⟨d, hd⟩ : ∃ d, atB s j = d := ⟨_, rfl⟩
     have hget : ∀ h, (⟨s.toArray⟩ : ByteArray)[j]'h = d := fun h => by rw [← hd]; exact (atB_lt hl).symm
     have hlt : j < s.length := hl
     cases hg : isPart d
     ·have hjv : j = v := by rw [← hw.out, tw_stop (p := isPart) (by rw [hd]; exact hg)]; rfl
      subst hjv
      clear hd
      go_wp2_with fail
      (with_reducible refine (t_part _ d false hg).mono ?_); rintro e w2 ⟨rfl, q2⟩
      replace hkp := hkp.below q2
      have bw2 := hbw.trans (q2.mono hbw.size)
      have lw2 := q2.size
      clear q2
      go_wp2_with fail
      go_ret
      exact ⟨rfl, bw2⟩
     ·obtain ⟨_, hst⟩ := tw_step (p := isPart) (s := s) (i := j) rfl (by rw [hd]; exact hg)
      have hw2 : Hid (j + 1 + ((s.drop (j + 1)).takeWhile isPart).length = v) := Lib.hid (by rw [← hw.out, hst]; omega)
      clear hst hd
      go_wp2_with fail
      (with_reducible refine (t_part _ d true hg).mono ?_); rintro e w2 ⟨rfl, q2⟩
      replace hkp := hkp.below q2
      have bw2 := hbw.trans (q2.mono hbw.size)
      have lw2 := q2.size
      clear q2
      go_wp2_with fail
      go_roundw
      case rel => exact ⟨j + 1, by go_num, by omega, hw2, hkp, bw2, by omega⟩
      case measure => simp [intOf]; omega
    ·have hjv : j = v := by rw [← hw.out, tw_stop (p := isPart) (by rw [atB_ge hl]; rfl)]; rfl
     subst hjv
     have hi1 : ((j : Int) < (s.length : Int)) = False := by simp; omega
     go_wp2_with fail
     go_ret
     exact ⟨rfl, hbw⟩
theorem t_digits_x (w : World) (s : List UInt8) (x : Int) (i : Nat) (hx : x = ((i : Nat) : Int)) (hi : i ≤ s.length) (hs : s.length < 4611686018427387904) (y : Int) (hy : ((digN (s.drop i) : Nat) : Int) = y) : Calls Tryz.prog 31 #[strV s, .int .i64 x] w (RetV w (.int .i64 y)) := by
  subst hx hy
  exact t_digits w s i hi hs _ rfl
end Go.Proofs.YtjanfdkbficmbaaGreatDoor

/- Walks: the reference's division. -/
namespace Go.Proofs.YtjanfdkbficmbaaGreatDoor
open Go Go.RowKit Bn
attribute [local go_sem ↓] Go.wp_at_zero Go.wp_at_succ

theorem val_rep (m : Nat) : val (List.replicate m 0) = 0 := by
  induction m with
  | zero => rfl
  | succ m ih => rw [List.replicate_succ, val, ih]
theorem wds_rep (m : Nat) : Wds (List.replicate m 0) := by intro x hx; rw [List.eq_of_mem_replicate hx]; omega
theorem words_cells (l : List Nat) : (cellsOf l).toList = words l := by simp [cellsOf, words]
theorem OwS.made (w : World) {B : Nat} (L : List Nat) (n : Nat) (hB : B ≤ w.heap.size) (hn : n ≤ 4398046511104) (hL : L.length = n) (hW : Wds L) : OwS (w.alloc (.cells (cellsOf L) 79)) B w.heap.size n n L := by
  refine ⟨?_, hW⟩
  rw [← words_cells]
  exact World.ownsRow_lit w (cellsOf L) n hB (by unfold maxLen; omega) (by simp [cellsOf, hL])
theorem OwS.far {w : World} {B g n cap : Nat} {l : List Nat} (h : OwS w B g n cap l) {p : Addr} (hp : g ≠ p.block) (u : Value) : OwS (w.setCell p u) B g n cap l := by
  refine ⟨⟨h.1.1, ?_⟩, h.2⟩
  rcases h.1.2 with ⟨e, _⟩ | ⟨g', c', cur, e, hB, hgg, r⟩
  · cases e
  · have e' := e
    injection e with e1 _ e2; injection e1 with e1; injection e1 with e1; subst e1
    exact .inr ⟨g, c', cur, e', hB, (Below.heap_setCell w p u g hp).trans hgg, r⟩
theorem or_word {u p s : Nat} (hu : u + p < 4294967296) (ho : u ||| p = u + p) (hp : 2 ^ s = p) : bits .or .u32 (u : Int) ((2 : Int) ^ s % 4294967296) = ((u + p : Nat) : Int) := by
  have e : (2 : Int) ^ s % 4294967296 = (p : Int) := by
    have h : (2 : Int) ^ s = ((2 ^ s : Nat) : Int) := by simp
    rw [h, hp]; omega
  rw [e, ← ho]
  exact u32_or_nat u p (by omega) (by omega)
theorem q_in {q m : Nat} : (2 * q + 1) * 2 ^ m = q * 2 ^ (m + 1) + 2 ^ m := by rw [Nat.pow_succ]; grind
theorem q_out {q m : Nat} : (2 * q) * 2 ^ m = q * 2 ^ (m + 1) := by rw [Nat.pow_succ]; grind
def DivO (a b : Nat) (Lq Lr : List Nat) (k : Nat) : Prop := val Lq = a / 2 ^ k / b * 2 ^ k ∧ val Lr = a / 2 ^ k % b
theorem r_divide_c (w : World) (A : Option Addr) (n c : Nat) (l : List Nat) (wa : Wd w A n c l) (hn : n ≤ 1000000000000) (A' : Option Addr) (n' c' : Nat) (l' : List Nat) (wb : Wd w A' n' c' l') (hn' : n' ≤ 1000000000000) (h0 : val l' ≠ 0) :
  Calls Tryz.prog 99 #[.slice A n c, .slice A' n' c'] w (RetD w (val l) (val l')) := by
 have HL := Lib.hid wa.2.1
 have HL' := Lib.hid wb.2.1
 obtain ⟨va, hva⟩ : ∃ v, val l = v := ⟨_, rfl⟩
 obtain ⟨vb, hvb⟩ : ∃ v, val l' = v := ⟨_, rfl⟩
 have HA := Lib.hid hva
 have HB := Lib.hid hvb
 rw [hvb] at h0
 have H0 := Lib.hid (Nat.pos_of_ne_zero h0)
 rw [hva, hvb]
 obtain ⟨gb, ob, rfl, hgb, _⟩ := wb.at2 (by
  rcases Nat.eq_zero_or_pos n' with e | e
  ·exfalso
   have h9 := HL'.out
   rw [e] at h9
   rw [List.eq_nil_of_length_eq_zero h9.symm] at hvb
   exact h0 hvb.symm
  ·exact e)
 clear h0 hva hvb
 go_enter Tryz.func99, Tryz.ntmps99
 go_wp2_with (first
  | (at_make; refine wpList_make_words _ rfl _ _ rfl _ _ _ _ n rfl rfl (by omega) (by omega) (by omega) ?_)
  | (at_make; refine wpList_make_words _ rfl _ _ rfl _ _ _ _ (n' + 1) rfl rfl (by omega) (by omega) (by omega) ?_))
 (with_reducible refine (r_bits_c _ A n c l ?_ (by omega)).mono ?_); (exact wa.keep (((Kp.refl w).alloc _).alloc _)); rintro e w1 ⟨N, rfl, hN1, hN2, rfl⟩
 rw [HA.out] at hN1
 go_wp2_with fail
 have oq0 : OwS ((w.alloc (.cells (cellsOf (List.replicate n 0)) 79)).alloc (.cells (cellsOf (List.replicate (n' + 1) 0)) 79)) w.heap.size w.heap.size n n (List.replicate n 0) :=
  (OwS.made w (List.replicate n 0) n (Nat.le_refl _) (by omega) (by simp) (wds_rep n)).belw ((brefl _).alloc (Nat.le_refl _) _)
 have or0 : OwS ((w.alloc (.cells (cellsOf (List.replicate n 0)) 79)).alloc (.cells (cellsOf (List.replicate (n' + 1) 0)) 79)) w.heap.size (w.heap.size + 1) (n' + 1) (n' + 1) (List.replicate (n' + 1) 0) := by
  have h := OwS.made (w.alloc (.cells (cellsOf (List.replicate n 0)) 79)) (B := w.heap.size) (List.replicate (n' + 1) 0) (n' + 1) (by simp) (by omega) (by simp) (wds_rep _)
  simpa using h
 have HO := Lib.hid (And.intro oq0 or0)
 clear oq0 or0
 go_loopw [8] (fun iv wr => ∃ (k : Nat) (z : Int) (Lq Lr : List Nat), k ≤ N ∧ iv = .int .i64 z ∧ z + 1 = (k : Int) ∧ DivO va vb Lq Lr k ∧ OwS wr w.heap.size w.heap.size n n Lq ∧ OwS wr w.heap.size (w.heap.size + 1) (n' + 1) (n' + 1) Lr ∧ Below w.heap.size w wr) (fun iv _ => (intOf iv + 1).toNat)
 case atStart =>
  refine ⟨N, (N : Int) - 1, _, _, Nat.le_refl _, by go_num, by omega, ⟨?_, ?_⟩, HO.out.1, HO.out.2, ((brefl w).alloc (Nat.le_refl _) _).alloc (by simp) _⟩
  ·rw [val_rep, Nat.div_eq_of_lt hN1]; simp
  ·rw [val_rep, Nat.div_eq_of_lt hN1]; simp
 case round =>
  obtain ⟨k, z, Lq, Lr, hk, rfl, hz, hI, hq, hr, hbel⟩ := hrel
  have HK := Lib.hid ((Kp.refl w).below hbel)
  have HI := Lib.hid hI
  have HQ := Lib.hid hq
  have HR := Lib.hid hr
  have HBL := Lib.hid hbel
  clear hI hq hr hbel HO
  by_cases hk0 : k = 0
  ·subst hk0
   have ez : z = -1 := by omega
   subst ez
   go_wp2_with fail
   (with_reducible refine (r_trim_c _ (some ⟨w.heap.size, 0, none⟩) n n Lq ?_ (by omega)).mono ?_); (exact HQ.out.toWd); rintro e w1 ⟨A1, n1, c1, rfl, h1, hb1⟩
   have HR2 := Lib.hid (HR.out.belw hb1)
   have HBL2 := Lib.hid (HBL.out.trans (hb1.mono HBL.out.size))
   clear hb1
   go_wp2_with fail
   (with_reducible refine (r_trim_c _ (some ⟨w.heap.size + 1, 0, none⟩) (n' + 1) (n' + 1) Lr ?_ (by omega)).mono ?_); (exact HR2.out.toWd); rintro e w2 ⟨A2, n2, c2, rfl, h2, hb2⟩
   have h1' := h1.keep ((Kp.refl w1).below hb2)
   have HBL3 := HBL2.out.trans (hb2.mono HBL2.out.size)
   rw [HI.out.1] at h1'
   rw [HI.out.2] at h2
   simp only [Nat.pow_zero, Nat.div_one, Nat.mul_one] at h1' h2
   have HF := Lib.hid (And.intro h1' (And.intro h2 HBL3))
   clear h1 h1' h2 HBL3 hb2
   go_wp2
   refine bodyPost_ret (v := .tuple #[.slice A1 n1 c1, .slice A2 n2 c2]) (by simp [results, Tryz.results99, go_sem]) rfl ?_
   exact ⟨A1, n1, c1, A2, n2, c2, rfl, HF.out.1, HF.out.2.1, HF.out.2.2⟩
  ·obtain ⟨m, rfl⟩ : ∃ m, k = m + 1 := ⟨k - 1, by omega⟩
   have ez : z = (m : Int) := by omega
   subst ez
   have hm32 : m / 32 < n := by omega
   obtain ⟨ga, oa, rfl, hgl, hca⟩ := (wa.keep HK.out).at2 (by omega)
   have hcx := hca (m / 32) hm32
   obtain ⟨x, hx⟩ : ∃ x, wd l (m / 32) = x := ⟨_, rfl⟩
   have hx1 : x < 4294967296 := by rw [← hx]; exact wa.lt _
   rw [hx] at hcx
   have HX := Lib.hid hx
   obtain ⟨br, hbr⟩ : ∃ d, bits .and .u32 ((x : Int) / 2 ^ (m % 32)) 1 = d := ⟨_, rfl⟩
   obtain ⟨b, hb⟩ : ∃ b, va / 2 ^ m % 2 = b := ⟨_, rfl⟩
   have hbb : br = (b : Int) := by
    rw [← hbr, ← hb, ← HA.out, ← wd_bit wa.1 m, hx]
    have e : (x : Int) / 2 ^ (m % 32) = ((x / 2 ^ (m % 32) : Nat) : Int) := by simp
    rw [e, and_one _ (Nat.lt_of_le_of_lt (Nat.div_le_self _ _) hx1)]
   have HB1 := Lib.hid hb
   have hb1 : b ≤ 1 := by omega
   clear hca hx hz hk0 hb
   go_wp2_with fail
   try rw [hbb]
   clear hbr hbb
   go_loopw [9, 36] (fun cv kv w2 => ∃ (k cr : Nat) (L2 : List Nat), k ≤ n' + 1 ∧ kv = .int .i64 (k : Nat) ∧ cv = .int .u32 (cr : Nat) ∧ cr ≤ 1 ∧ DblI Lr L2 b k cr ∧ OwS w2 w.heap.size w.heap.size n n Lq ∧ OwS w2 w.heap.size (w.heap.size + 1) (n' + 1) (n' + 1) L2 ∧ Below w.heap.size w w2) (fun _ kv _ => n' + 1 - (intOf kv).toNat)
   case atStart => exact ⟨0, b, Lr, Nat.zero_le _, rfl, rfl, hb1, DblI.start _ _, HQ.out, HR.out, HBL.out⟩
   case round =>
    obtain ⟨k, cr, L2, hk2, rfl, rfl, hcr, hI2, hq2, hr2, hbel2⟩ := hrel
    have HI2 := Lib.hid hI2
    have HQ2 := Lib.hid hq2
    have HR2 := Lib.hid hr2
    have HBL2 := Lib.hid hbel2
    clear hI2 hq2 hr2 hbel2
    by_cases hkk : k < n' + 1
    ·obtain ⟨y, hy⟩ : ∃ y, wd Lr k = y := ⟨_, rfl⟩
     have hy1 : y < 4294967296 := by rw [← hy]; exact wd_lt HR.out.2 _
     have hck := HR2.out.cell k hkk
     rw [HI2.out.1 k (Nat.le_refl _), hy] at hck
     have hfk := HR2.out.frozen k
     have HY := Lib.hid hy
     obtain ⟨s, hs⟩ : ∃ s, bits .or .u32 ((y : Int) * 2 % 4294967296) (cr : Int) = s := ⟨_, rfl⟩
     have he : s = ((y * 2 % 4294967296 + cr : Nat) : Int) := by
      rw [← hs, ← (dbl_word hcr hy1).1]
      exact u32_or_nat (y * 2 % 4294967296) cr (Nat.mod_lt _ (by decide)) (by omega)
     have HE := Lib.hid he
     have HS := Lib.hid (dbl_word hcr hy1).2
     clear hy he
     go_wp2
     go_region
     clear hs
     go_wp2
     go_roundw
     case rel =>
      have hst := HI2.out.step HY.out hy1 (by rw [← HR2.out.len]; exact hkk)
      refine ⟨k + 1, y / 2147483648, L2.set k (y * 2 % 4294967296 + cr), by omega, by go_num, by go_num, HS.out.2, hst, ?_, ?_, ?_⟩
      ·exact OwS.far (w := wr) HQ2.out (p := ⟨w.heap.size + 1, k, none⟩) (by simp) _
      ·exact OwS.set (w := wr) HR2.out k HS.out.1 HE.out
      ·exact (Below.setCell HBL2.out (p := ⟨w.heap.size + 1, k, none⟩) (by simp) _).drew
     case measure => simp [intOf]; omega
    ·have hkn : k = n' + 1 := by omega
     subst hkn
     have hv2 : val L2 = 2 * val Lr + b := by
      have h3 := HR2.out.len
      have h4 := HR.out.len
      refine DblI.fin HI2.out (by omega) (by omega) ?_
      refine dbl_room (v := vb) ?_ ?_ hb1
      ·rw [HI.out.2]; exact Nat.mod_lt _ H0.out
      ·rw [← HB.out, HL'.out]; exact val_lt wb.1
     rw [HI.out.2, ← HB1.out] at hv2
     obtain ⟨r2, hr2⟩ : ∃ r, val L2 = r := ⟨_, rfl⟩
     rw [hr2] at hv2
     have HV := Lib.hid hv2
     have HR2v := Lib.hid hr2
     clear hv2 hr2
     by_cases hge : vb ≤ r2
     ·have hc0 : 0 ≤ cmpN r2 vb := by unfold cmpN; (repeat' split) <;> omega
      obtain ⟨cv, hcv⟩ : ∃ cv, cmpN r2 vb = cv := ⟨_, rfl⟩
      rw [hcv] at hc0
      have HC := Lib.hid hcv
      clear hcv
      go_wp2_with fail
      (with_reducible refine (r_compare_c _ (some ⟨w.heap.size + 1, 0, none⟩) (n' + 1) (n' + 1) L2 ?_ ?_ (some ⟨gb, ob, none⟩) n' c' l' ?_ ?_).mono ?_); (exact HR2.out.toWd); (omega); (exact wb.keep ((Kp.refl w).below HBL2.out)); (omega); rintro e w1 ⟨rfl, hbl1⟩
      rw [HR2v.out, HB.out, HC.out]
      have HQ3 := Lib.hid (HQ2.out.belw hbl1)
      have HR3 := Lib.hid (HR2.out.belw hbl1)
      have HBL3 := Lib.hid (HBL2.out.trans (hbl1.mono HBL2.out.size))
      clear hbl1 HQ2 HR2 HBL2
      go_wp2_with fail
      (with_reducible refine (r_take_o _ w.heap.size (w.heap.size + 1) (n' + 1) (n' + 1) L2 ?_ ?_ (some ⟨gb, ob, none⟩) n' c' l' ?_ ?_ ?_ ?_).mono ?_)
      ·exact HR3.out
      ·omega
      ·exact wb.keep ((Kp.refl w).below HBL3.out)
      ·intro ad e; injection e with e; subst e; show gb ≠ _; omega
      ·omega
      ·rw [HR2v.out, HB.out]; exact hge
      rintro e w2 ⟨L3, rfl, hr3, hv3, hon⟩
      rw [HR2v.out, HB.out] at hv3
      have hq3 := hon.own HQ3.out (by omega)
      have HBL4 := Lib.hid (HBL3.out.trans (hon.1.mono (by omega)))
      have HR4 := Lib.hid hr3
      have HV3 := Lib.hid hv3
      obtain ⟨u, hu⟩ : ∃ u, wd Lq (m / 32) = u := ⟨_, rfl⟩
      have hcq := hq3.cell (m / 32) hm32
      have hfq := hq3.frozen (m / 32)
      rw [hu] at hcq
      have hob := or_bit HQ.out.2 m (by rw [← HQ.out.len]; exact hm32) HI.out.1
      rw [hu] at hob
      obtain ⟨p, hp⟩ : ∃ p, 2 ^ (m % 32) = p := ⟨_, rfl⟩
      rw [hp] at hob
      have HQ4 := Lib.hid hq3
      have HOB := Lib.hid hob
      have HU := Lib.hid hu
      have HP := Lib.hid hp
      clear hr3 hv3 hon hq3 HQ3 HR3 HBL3 hu hob hp
      go_wp2
      go_region
      go_wp2
      go_roundw
      case rel =>
       have hbi := bit_in (a := va) (k := m) HV.out hge H0.out
       have he := or_word HOB.out.2.1 HOB.out.1 HP.out
       refine ⟨m, (m : Int) - 1, Lq.set (m / 32) (u + p), L3, by omega, by go_num, by omega, ⟨?_, ?_⟩, ?_, ?_, ?_⟩
       ·rw [HOB.out.2.2, HI.out.1, hbi.1, q_in]
       ·rw [HV3.out, hbi.2]
       ·exact OwS.set (w := w2) HQ4.out (m / 32) HOB.out.2.1 he
       ·exact OwS.far (w := w2) HR4.out (p := ⟨w.heap.size, m / 32, none⟩) (by simp) _
       ·exact (Below.setCell HBL4.out (p := ⟨w.heap.size, m / 32, none⟩) (by simp) _).drew
      case measure => simp [intOf] <;> omega
     ·have hc0 : cmpN r2 vb < 0 := by unfold cmpN; (repeat' split) <;> omega
      obtain ⟨cv, hcv⟩ : ∃ cv, cmpN r2 vb = cv := ⟨_, rfl⟩
      rw [hcv] at hc0
      have HC := Lib.hid hcv
      clear hcv
      go_wp2_with fail
      (with_reducible refine (r_compare_c _ (some ⟨w.heap.size + 1, 0, none⟩) (n' + 1) (n' + 1) L2 ?_ ?_ (some ⟨gb, ob, none⟩) n' c' l' ?_ ?_).mono ?_); (exact HR2.out.toWd); (omega); (exact wb.keep ((Kp.refl w).below HBL2.out)); (omega); rintro e w1 ⟨rfl, hbl1⟩
      rw [HR2v.out, HB.out, HC.out]
      have HQ3 := Lib.hid (HQ2.out.belw hbl1)
      have HR3 := Lib.hid (HR2.out.belw hbl1)
      have HBL3 := Lib.hid (HBL2.out.trans (hbl1.mono HBL2.out.size))
      clear hbl1 HQ2 HR2 HBL2
      go_wp2
      go_roundw
      case rel =>
       have hbi := bit_out (a := va) (k := m) HV.out (by omega)
       refine ⟨m, (m : Int) - 1, Lq, L2, by omega, by go_num, by omega, ⟨?_, ?_⟩, HQ3.out, HR3.out, HBL3.out⟩
       ·rw [HI.out.1, hbi.1, q_out]
       ·rw [HR2v.out, hbi.2]
      case measure => simp [intOf] <;> omega
end Go.Proofs.YtjanfdkbficmbaaGreatDoor
