/- Part AM3: lemmas and walks that the claim rests on. No claim is made here. -/
import Derived.Lib.Atoi
import Derived.Lib.SlTrimSet
import Derived.Lib.ItoaNum
import Derived.Deep.RegionHeld3
import Derived.Deep.DrawnRows
import Derived.Lib.AppendIntMem
import Derived.Laws.OwnMore
import Derived.Deep.AppendLies
import Derived.Shelf.Strings.SlTrimAscii
import Derived.WalkSpells
import Derived.BigQuiet
import Derived.Deep.DeepCutAuto
import Derived.Lib.IndexMore
import Derived.Test.YtoiijifnfdgfpaaGreatDoorAM2
set_option linter.unusedVariables false
set_option maxHeartbeats 8000000
set_option maxRecDepth 100000
/- Digits one by one; texts read as numbers: plain. -/
namespace Bn
open Go.Lib
def dg (V : Nat) : List UInt8 := if V = 0 then [] else decDigits V
theorem dg_step {V : Nat} (h : 0 < V) : dg V = dg (V / 10) ++ [UInt8.ofNat (48 + V % 10)] := by
  unfold dg
  rw [if_neg (by omega)]
  by_cases h1 : V < 10
  · rw [if_pos (by omega), decDigits_one h1, Nat.mod_eq_of_lt h1]; rfl
  · rw [if_neg (by omega)]; conv => lhs; rw [decDigits, dif_neg h1]
def DgI (N q k r : Nat) (s : List UInt8) : Prop := decDigits N = dg (q * 10 ^ (9 - k) + r) ++ s ∧ r < 10 ^ (9 - k)
theorem DgI.start {N Q : Nat} {s : List UInt8} (h : decDigits N = dg Q ++ s) : DgI N (Q / 1000000000) 0 (Q % 1000000000) s := by
  refine ⟨?_, Nat.mod_lt _ (by decide)⟩
  rw [show Q / 1000000000 * 10 ^ (9 - 0) + Q % 1000000000 = Q by rw [Nat.mul_comm]; exact Nat.div_add_mod Q 1000000000]
  exact h
theorem DgI.step {N q k r : Nat} {s : List UInt8} (h : DgI N q k r s) (hk : k < 9) (h0 : 0 < r ∨ 0 < q) : DgI N q (k + 1) (r / 10) ([UInt8.ofNat (48 + r % 10)] ++ s) := by
  obtain ⟨h1, h2⟩ := h
  have e : 10 ^ (9 - k) = 10 ^ (9 - (k + 1)) * 10 := by rw [← Nat.pow_succ]; congr 1; omega
  rw [e] at h1 h2
  have hp : 0 < 10 ^ (9 - (k + 1)) := Nat.pow_pos (by omega)
  unfold DgI
  generalize 10 ^ (9 - (k + 1)) = P at *
  have e2 : q * (P * 10) + r = (q * P + r / 10) * 10 + r % 10 := by rw [← Nat.mul_assoc]; omega
  have h3 : 0 < q * (P * 10) + r := by
    rcases h0 with h | h
    · omega
    · have := Nat.mul_pos h (show 0 < P * 10 by omega); omega
  refine ⟨?_, by omega⟩
  rw [h1, dg_step h3, e2, show ((q * P + r / 10) * 10 + r % 10) / 10 = q * P + r / 10 by omega, show ((q * P + r / 10) * 10 + r % 10) % 10 = r % 10 by omega, List.append_assoc]
theorem dg_len {N Q : Nat} {s : List UInt8} (h : decDigits N = dg Q ++ s) : s.length ≤ nDigits N := by
  rw [← decDigits_length, h, List.length_append]; omega
theorem DgI.len {N q k r : Nat} {s : List UInt8} (h : DgI N q k r s) : s.length ≤ nDigits N := dg_len h.1

/-! ### Texts read -/
def isDg (c : UInt8) : Bool := decide (48 ≤ c.toNat) && decide (c.toNat ≤ 57)
def dval (c : UInt8) : Nat := c.toNat - 48
def decVal (l : List UInt8) : Nat := l.foldl (fun a c => a * 10 + dval c) 0
theorem foldl_dec (l : List UInt8) : ∀ a, l.foldl (fun a c => a * 10 + dval c) a = a * 10 ^ l.length + decVal l := by
  unfold decVal
  induction l with
  | nil => intro a; simp
  | cons x r ih =>
    intro a
    rw [List.foldl_cons, ih, List.foldl_cons, ih (0 * 10 + dval x), List.length_cons, Nat.pow_succ, Nat.add_mul]
    rw [Nat.zero_mul, Nat.zero_add, Nat.mul_assoc, Nat.mul_comm 10, Nat.add_assoc]
theorem decVal_app (a b : List UInt8) : decVal (a ++ b) = decVal a * 10 ^ b.length + decVal b := by
  conv => lhs; unfold decVal
  rw [List.foldl_append, foldl_dec]; rfl
theorem decVal_snoc (a : List UInt8) (c : UInt8) : decVal (a ++ [c]) = decVal a * 10 + dval c := by
  rw [decVal_app]; simp [decVal]
theorem decVal_lt : ∀ {l : List UInt8}, l.all isDg = true → decVal l < 10 ^ l.length := by
  intro l
  induction l with
  | nil => intro _; simp [decVal]
  | cons x r ih =>
    intro h
    rw [List.all_cons, Bool.and_eq_true] at h
    have h1 := ih h.2
    have hx : dval x ≤ 9 := by
      have := h.1; unfold isDg at this; simp at this; unfold dval; omega
    have e : decVal (x :: r) = dval x * 10 ^ r.length + decVal r := by
      have := decVal_app [x] r
      simpa [decVal] using this
    rw [e, List.length_cons, Nat.pow_succ]
    have := Nat.mul_le_mul_right (10 ^ r.length) hx
    omega
def tailS (l : List UInt8) : List UInt8 := match l with | 45 :: r => r | l => l
def headM (l : List UInt8) : Bool := match l with | 45 :: _ => true | _ => false
def okZ (l : List UInt8) : Bool := decide (tailS l ≠ []) && (tailS l).all isDg && !(decide ((tailS l).head? = some 48) && (decide (1 < (tailS l).length) || headM l))
def valZ (l : List UInt8) : Int := if headM l then -(decVal (tailS l) : Int) else decVal (tailS l)
theorem digit_ok {d : Nat} (h : d < 10) : isDg (UInt8.ofNat (48 + d)) = true ∧ dval (UInt8.ofNat (48 + d)) = d := by
  have e : (UInt8.ofNat (48 + d)).toNat = 48 + d := by simp; omega
  unfold isDg dval
  rw [e]
  simp; omega
theorem dec_all (n : Nat) : (decDigits n).all isDg = true ∧ decVal (decDigits n) = n := by
  induction n using Nat.strongRecOn with
  | ind n ih =>
    by_cases h : n < 10
    · rw [decDigits_one h]
      have h1 := digit_ok h
      generalize UInt8.ofNat (48 + n) = c at h1
      refine ⟨by rw [List.all_cons, h1.1]; rfl, ?_⟩
      rw [← List.nil_append [c], decVal_snoc, h1.2]; simp [decVal]
    · have e : decDigits n = decDigits (n / 10) ++ [UInt8.ofNat (48 + n % 10)] := by
        conv => lhs; rw [decDigits, dif_neg h]
      have h1 := ih (n / 10) (by omega)
      have h2 := digit_ok (Nat.mod_lt n (show 0 < 10 by omega))
      generalize UInt8.ofNat (48 + n % 10) = c at h2 e
      refine ⟨by rw [e, List.all_append, h1.1, List.all_cons, h2.1]; rfl, ?_⟩
      rw [e, decVal_snoc, h1.2, h2.2]; omega
theorem dec_head {n : Nat} (h : 0 < n) : ∃ c r, decDigits n = c :: r ∧ c ≠ 48 ∧ c ≠ 45 := by
  induction n using Nat.strongRecOn with
  | ind n ih =>
    by_cases h1 : n < 10
    · rw [decDigits_one h1]
      refine ⟨_, [], rfl, ?_, ?_⟩
      · intro e
        have := congrArg UInt8.toNat e
        simp at this; omega
      · intro e
        have := congrArg UInt8.toNat e
        simp at this; omega
    · have e : decDigits n = decDigits (n / 10) ++ [UInt8.ofNat (48 + n % 10)] := by
        conv => lhs; rw [decDigits, dif_neg h1]
      obtain ⟨c, r, h2, h3⟩ := ih (n / 10) (by omega) (by omega)
      exact ⟨c, r ++ [UInt8.ofNat (48 + n % 10)], by rw [e, h2]; rfl, h3⟩
theorem itoa_ok (z : Int) : okZ (itoa z) = true ∧ valZ (itoa z) = z := by
  rw [itoa_abs]
  rcases Nat.eq_zero_or_pos z.natAbs with h | h
  · have : z = 0 := by omega
    subst this
    rw [if_neg (by decide), show (0 : Int).natAbs = 0 from rfl, decDigits_one (by omega)]
    decide
  · obtain ⟨c, r, e, h1, h2⟩ := dec_head h
    have ha := dec_all z.natAbs
    by_cases hz : z < 0
    · rw [if_pos hz]
      have et : tailS ([45] ++ decDigits z.natAbs) = decDigits z.natAbs := rfl
      have em : headM ([45] ++ decDigits z.natAbs) = true := rfl
      unfold okZ valZ
      rw [et, em, ha.1, ha.2, e]
      simp [h1]; omega
    · rw [if_neg hz, List.nil_append]
      have et : tailS (decDigits z.natAbs) = decDigits z.natAbs := by rw [e]; unfold tailS; split <;> simp_all
      have em : headM (decDigits z.natAbs) = false := by rw [e]; unfold headM; split <;> simp_all
      unfold okZ valZ
      rw [et, em, ha.1, ha.2, e]
      simp [h1]; omega
end Bn

/- Texts read as numbers: what the library's functions give on digits. Plain. -/
namespace Bn
open Go.Lib
theorem digitVal_dg {c : UInt8} (h : isDg c = true) : digitVal c = some (dval c) := by
  unfold isDg at h
  rw [Bool.and_eq_true, decide_eq_true_eq, decide_eq_true_eq] at h
  unfold digitVal dval
  rw [if_pos h]
theorem decFrom_dg : ∀ {l : List UInt8}, l.all isDg = true → ∀ acc, decFrom acc l = some (l.foldl (fun a c => a * 10 + dval c) acc) := by
  intro l
  induction l with
  | nil => intro _ acc; rfl
  | cons x r ih =>
    intro h acc
    rw [List.all_cons, Bool.and_eq_true] at h
    rw [decFrom, digitVal_dg h.1, List.foldl_cons]
    exact ih h.2 _
theorem atoi_dec {l : List UInt8} (h : l.all isDg = true) (h0 : l ≠ []) : atoi l = some (decVal l : Int) := by
  cases l with
  | nil => exact absurd rfl h0
  | cons x r =>
    have hx : isDg x = true := by rw [List.all_cons, Bool.and_eq_true] at h; exact h.1
    have h1 : (x == 45) = false := by
      apply Bool.eq_false_iff.2
      intro e
      rw [beq_iff_eq] at e
      subst e
      exact absurd hx (by decide)
    have h2 : (x == 43) = false := by
      apply Bool.eq_false_iff.2
      intro e
      rw [beq_iff_eq] at e
      subst e
      exact absurd hx (by decide)
    unfold atoi
    dsimp only
    rw [h1, h2]
    simp only [Bool.false_eq_true, if_false]
    unfold decNat
    rw [if_neg (by simp), decFrom_dg h]
    rfl
def digs10 : List UInt8 := [48, 49, 50, 51, 52, 53, 54, 55, 56, 57]
theorem contains_dg (c : UInt8) : digs10.contains c = isDg c := by
  have h : ∀ v : Fin 256, digs10.contains (UInt8.ofNat v) = isDg (UInt8.ofNat v) := by decide +kernel
  have := h ⟨c.toNat, c.toNat_lt⟩
  simpa using this
theorem dropWhile_nil {p : UInt8 → Bool} : ∀ {l : List UInt8}, l.dropWhile p = [] ↔ l.all p = true := by
  intro l
  induction l with
  | nil => simp
  | cons x r ih =>
    by_cases h : p x = true
    · rw [List.dropWhile_cons_of_pos h, ih, List.all_cons, h]; simp
    · rw [List.dropWhile_cons_of_neg h]; simp [h]
theorem dropWhile_head {p : UInt8 → Bool} : ∀ {l : List UInt8} {x : UInt8} {r : List UInt8}, l.dropWhile p = x :: r → p x = false := by
  intro l
  induction l with
  | nil => intro x r h; simp at h
  | cons y s ih =>
    intro x r h
    by_cases hy : p y = true
    · rw [List.dropWhile_cons_of_pos hy] at h; exact ih h
    · rw [List.dropWhile_cons_of_neg hy] at h
      injection h with h1 h2
      subst h1
      simpa using hy
theorem trim_dg {l : List UInt8} : trimS l digs10 = [] ↔ l.all isDg = true := by
  have hp : (fun b => digs10.contains b) = isDg := funext contains_dg
  unfold trimS trimLeftS trimRightS
  rw [hp]
  rw [dropWhile_nil, List.all_reverse]
  constructor
  · intro h
    cases hd : l.reverse.dropWhile isDg with
    | nil => have := dropWhile_nil.1 hd; rw [List.all_reverse] at this; exact this
    | cons x r =>
      rw [hd, List.all_cons, Bool.and_eq_true] at h
      rw [dropWhile_head hd] at h
      exact absurd h.1 (by simp)
  · intro h
    rw [dropWhile_nil.2 (by rw [List.all_reverse]; exact h)]
    rfl
theorem hasPrefix_m (l : List UInt8) : hasPrefix l [45] = headM l := by
  unfold hasPrefix headM
  cases l with
  | nil => rfl
  | cons x r =>
    by_cases h : x = 45
    · subst h; rfl
    · have e : (45 == x) = false := by simp; exact fun e => h e.symm
      simp only [List.isPrefixOf, e, Bool.false_and]
      split
      · rename_i h1; injection h1 with h2; exact absurd h2 h
      · rfl
theorem trimPrefix_m (l : List UInt8) : trimPrefix l [45] = tailS l := by
  unfold trimPrefix
  rw [hasPrefix_m]
  unfold headM tailS
  split
  · rename_i r
    rfl
  · rfl
theorem tailS_len (l : List UInt8) : (tailS l).length ≤ l.length := by
  unfold tailS; split <;> simp
theorem len_ten (k : Nat) : 10 ^ k ≤ 4294967296 ^ k := Nat.pow_le_pow_left (by omega) k
theorem decVal_words {l : List UInt8} (h : l.all isDg = true) : decVal l < 4294967296 ^ l.length := Nat.lt_of_lt_of_le (decVal_lt h) (len_ten _)
theorem all_take {l : List UInt8} {p : UInt8 → Bool} (h : l.all p = true) (k : Nat) : (l.take k).all p = true := by
  rw [List.all_eq_true] at h ⊢
  exact fun x hx => h x (List.mem_of_mem_take hx)
theorem all_drop {l : List UInt8} {p : UInt8 → Bool} (h : l.all p = true) (k : Nat) : (l.drop k).all p = true := by
  rw [List.all_eq_true] at h ⊢
  exact fun x hx => h x (List.mem_of_mem_drop hx)
def GrpI (t pre rest : List UInt8) : Prop := t = pre ++ rest ∧ (pre = [] ∨ rest.length % 9 = 0)
theorem GrpI.step {t pre rest : List UInt8} {n : Nat} (h : GrpI t pre rest) (h0 : 0 < rest.length) (hn : (rest.length - 1) % 9 + 1 = n) :
    n ≤ rest.length ∧ n ≤ 9 ∧ 0 < n ∧ GrpI t (pre ++ rest.take n) (rest.drop n) ∧ decVal (pre ++ rest.take n) = decVal pre * 1000000000 + decVal (rest.take n) := by
  have h1 : n ≤ rest.length := by have := Nat.mod_le (rest.length - 1) 9; omega
  refine ⟨h1, by have := Nat.mod_lt (rest.length - 1) (show 0 < 9 by omega); omega, by omega, ⟨?_, ?_⟩, ?_⟩
  · rw [List.append_assoc, List.take_append_drop]; exact h.1
  · right; rw [List.length_drop]; omega
  · rw [decVal_app, List.length_take, Nat.min_eq_left h1]
    rcases h.2 with e | e
    · subst e; simp [decVal]
    · have : n = 9 := by omega
      subst this; rfl
theorem GrpI.start (t : List UInt8) : GrpI t [] t := ⟨rfl, .inl rfl⟩
theorem GrpI.fin {t pre : List UInt8} (h : GrpI t pre []) : pre = t := by have := h.1; rw [List.append_nil] at this; exact this.symm
theorem okZ_parts {l : List UInt8} (h : okZ l = true) : tailS l ≠ [] ∧ (tailS l).all isDg = true ∧ ¬ ((tailS l).head? = some 48 ∧ (1 < (tailS l).length ∨ headM l = true)) := by
  unfold okZ at h
  simp at h
  refine ⟨h.1.1, by simpa using h.1.2, fun ⟨a, b⟩ => ?_⟩
  rcases h.2 with e | e
  · exact e a
  · rcases b with b | b
    · omega
    · rw [b] at e; exact absurd e.2 (by simp)
end Bn

/- Division bit by bit: plain numbers. -/
namespace Bn
theorem wd_val {l : List Nat} (h : Wds l) (j : Nat) : wd l j = val l / 4294967296 ^ j % 4294967296 := by
  have e := Sm_ge l (show l.length ≤ j + (l.length + 1) by omega)
  have h1 : Sm (wd l) j < 4294967296 ^ j := Sm_lt (fun i _ => wd_lt h i)
  rw [Sm_add, Sm_shift] at e
  simp only [Nat.add_zero] at e
  generalize Sm (fun i => wd l (j + (i + 1))) l.length = X at e
  rw [← e, Nat.add_mul_div_left _ _ (pow_pos' j), Nat.div_eq_of_lt h1, Nat.zero_add, Nat.add_mul_mod_self_left]
  exact (Nat.mod_eq_of_lt (wd_lt h j)).symm
theorem pow_split (i : Nat) : 4294967296 ^ (i / 32) * 2 ^ (i % 32) = 2 ^ i := by
  have : (4294967296 : Nat) ^ (i / 32) = 2 ^ (32 * (i / 32)) := by rw [Nat.pow_mul]
  rw [this, ← Nat.pow_add, Nat.div_add_mod]
theorem wd_bit {l : List Nat} (h : Wds l) (i : Nat) : wd l (i / 32) / 2 ^ (i % 32) % 2 = val l / 2 ^ i % 2 := by
  rw [wd_val h, ← pow_split i, ← Nat.div_div_eq_div_mul]
  generalize val l / 4294967296 ^ (i / 32) = x
  have hs : i % 32 < 32 := Nat.mod_lt _ (by decide)
  generalize i % 32 = s at *
  have h1 := Nat.testBit_mod_two_pow x 32 s
  simp only [hs, decide_true, Bool.true_and, Nat.testBit_eq_decide_div_mod_eq] at h1
  have h2 : (x % 2 ^ 32 / 2 ^ s % 2 = 1) ↔ (x / 2 ^ s % 2 = 1) := by simpa using h1
  have e : (2 : Nat) ^ 32 = 4294967296 := by decide
  rw [e] at h2
  omega
theorem val_set (L : List Nat) (j x : Nat) (h : j < L.length) : val (L.set j x) + wd L j * 4294967296 ^ j = val L + x * 4294967296 ^ j := by
  have := Sm_set_mid L j x L.length h h
  rw [Sm_ge (L.set j x) (by simp), Sm_ge L (Nat.le_refl _)] at this
  exact this
theorem or_pow {x s : Nat} (hx : x % 2 ^ (s + 1) = 0) : x ||| 2 ^ s = x + 2 ^ s := by
  have h := Nat.shiftLeft_add_eq_or_of_lt (b := 2 ^ s) (i := s + 1) (Nat.pow_lt_pow_right (by omega) (by omega)) (x / 2 ^ (s + 1))
  rw [Nat.shiftLeft_eq, Nat.div_mul_cancel (Nat.dvd_of_mod_eq_zero hx)] at h
  exact h.symm
theorem or_bit {L : List Nat} (h : Wds L) (i : Nat) (hi : i / 32 < L.length) {m : Nat} (hv : val L = m * 2 ^ (i + 1)) :
    wd L (i / 32) ||| 2 ^ (i % 32) = wd L (i / 32) + 2 ^ (i % 32) ∧ wd L (i / 32) + 2 ^ (i % 32) < 4294967296 ∧ val (L.set (i / 32) (wd L (i / 32) + 2 ^ (i % 32))) = val L + 2 ^ i := by
  have hs : i % 32 < 32 := Nat.mod_lt _ (by decide)
  have hx : wd L (i / 32) % 2 ^ (i % 32 + 1) = 0 := by
    rw [wd_val h, hv, Nat.pow_succ, ← pow_split i]
    have e1 : m * (4294967296 ^ (i / 32) * 2 ^ (i % 32) * 2) = 4294967296 ^ (i / 32) * (m * 2 ^ (i % 32 + 1)) := by rw [Nat.pow_succ]; grind
    rw [e1, Nat.mul_div_cancel_left _ (pow_pos' _)]
    have e2 : (4294967296 : Nat) = 2 ^ (i % 32 + 1) * 2 ^ (31 - i % 32) := by rw [← Nat.pow_add, show i % 32 + 1 + (31 - i % 32) = 32 by omega]
    rw [e2, Nat.mod_mul_right_mod, Nat.mul_mod_left]
  refine ⟨or_pow hx, ?_, ?_⟩
  · have h1 : wd L (i / 32) ||| 2 ^ (i % 32) < 2 ^ 32 := Nat.or_lt_two_pow (wd_lt h _) (Nat.pow_lt_pow_right (by omega) hs)
    rw [or_pow hx] at h1; exact h1
  · have h1 := val_set L (i / 32) (wd L (i / 32) + 2 ^ (i % 32)) hi
    rw [Nat.add_mul, Nat.mul_comm (2 ^ (i % 32)), pow_split] at h1
    omega
theorem bit_high (a k : Nat) : a / 2 ^ k = 2 * (a / 2 ^ (k + 1)) + a / 2 ^ k % 2 := by
  rw [Nat.pow_succ, ← Nat.div_div_eq_div_mul]; omega
theorem bit_in {a v k r : Nat} (hr : r = 2 * (a / 2 ^ (k + 1) % v) + a / 2 ^ k % 2) (h : v ≤ r) (hv : 0 < v) :
    a / 2 ^ k / v = 2 * (a / 2 ^ (k + 1) / v) + 1 ∧ a / 2 ^ k % v = r - v := by
  have e := bit_high a k
  generalize a / 2 ^ (k + 1) = hi at *
  generalize hb : a / 2 ^ k % 2 = b at *
  have hb1 : b ≤ 1 := by omega
  rw [e]
  have hm := Nat.mod_lt hi hv
  have hd := Nat.div_add_mod hi v
  have e2 : 2 * hi + b = v * (2 * (hi / v) + 1) + (r - v) := by
    rw [Nat.mul_add, Nat.mul_one]
    have : v * (2 * (hi / v)) = 2 * (v * (hi / v)) := by grind
    omega
  have hlt : r - v < v := by omega
  rw [e2]
  constructor
  · rw [Nat.mul_add_div hv, Nat.div_eq_of_lt hlt, Nat.add_zero]
  · rw [Nat.mul_add_mod, Nat.mod_eq_of_lt hlt]
theorem bit_out {a v k r : Nat} (hr : r = 2 * (a / 2 ^ (k + 1) % v) + a / 2 ^ k % 2) (h : r < v) :
    a / 2 ^ k / v = 2 * (a / 2 ^ (k + 1) / v) ∧ a / 2 ^ k % v = r := by
  have hv : 0 < v := by omega
  have e := bit_high a k
  generalize a / 2 ^ (k + 1) = hi at *
  generalize hb : a / 2 ^ k % 2 = b at *
  rw [e]
  have hd := Nat.div_add_mod hi v
  have e2 : 2 * hi + b = v * (2 * (hi / v)) + r := by
    have : v * (2 * (hi / v)) = 2 * (v * (hi / v)) := by grind
    omega
  rw [e2]
  constructor
  · rw [Nat.mul_add_div hv, Nat.div_eq_of_lt h, Nat.add_zero]
  · rw [Nat.mul_add_mod, Nat.mod_eq_of_lt h]
def DblI (l L : List Nat) (b k cr : Nat) : Prop := (∀ i, k ≤ i → wd L i = wd l i) ∧ Sm (wd L) k + cr * 4294967296 ^ k = 2 * Sm (wd l) k + b
theorem DblI.start (l : List Nat) (b : Nat) : DblI l l b 0 b := ⟨fun _ _ => rfl, by simp [Sm]⟩
theorem dbl_word {x c : Nat} (hc : c ≤ 1) (hx : x < 4294967296) : (x * 2 % 4294967296 ||| c) = x * 2 % 4294967296 + c ∧ x * 2 % 4294967296 + c < 4294967296 ∧ x / 2147483648 ≤ 1 := by
  refine ⟨?_, by omega, by omega⟩
  have h := Nat.shiftLeft_add_eq_or_of_lt (b := c) (i := 1) (by omega) (x * 2 % 4294967296 / 2)
  rw [Nat.shiftLeft_eq, Nat.pow_one, show x * 2 % 4294967296 / 2 * 2 = x * 2 % 4294967296 by omega] at h
  exact h.symm
theorem DblI.step {l L : List Nat} {b k cr x : Nat} (h : DblI l L b k cr) (hx : wd l k = x) (hlt : x < 4294967296) (hk : k < L.length) :
    DblI l (L.set k (x * 2 % 4294967296 + cr)) b (k + 1) (x / 2147483648) := by
  refine ⟨fun i hi => ?_, ?_⟩
  · rw [wd_set, if_neg (by omega)]; exact h.1 i (by omega)
  · rw [Sm_set_succ _ _ _ hk, Sm, hx, Nat.pow_succ]
    have h2 := h.2
    have e : x * 2 % 4294967296 + x / 2147483648 * 4294967296 = 2 * x := by omega
    have e2 : x * 2 % 4294967296 * 4294967296 ^ k + x / 2147483648 * (4294967296 ^ k * 4294967296) = 2 * (x * 4294967296 ^ k) := by
      have : (x * 2 % 4294967296 + x / 2147483648 * 4294967296) * 4294967296 ^ k = 2 * x * 4294967296 ^ k := by rw [e]
      rw [Nat.add_mul] at this
      have e3 : x / 2147483648 * (4294967296 ^ k * 4294967296) = x / 2147483648 * 4294967296 * 4294967296 ^ k := by grind
      rw [e3, ← Nat.mul_assoc]; exact this
    rw [Nat.add_mul]
    omega
theorem DblI.fin {l L : List Nat} {b k cr : Nat} (h : DblI l L b k cr) (hl : l.length = k) (hL : L.length = k) (hs : 2 * val l + b < 4294967296 ^ k) : val L = 2 * val l + b := by
  have h2 := h.2
  rw [Sm_ge L (by omega), Sm_ge l (by omega)] at h2
  rcases Nat.eq_zero_or_pos cr with e | e
  · subst e; omega
  · have : 1 * 4294967296 ^ k ≤ cr * 4294967296 ^ k := Nat.mul_le_mul_right _ e
    omega
theorem dbl_room {r v b m : Nat} (hr : r < v) (hv : v < 4294967296 ^ m) (hb : b ≤ 1) : 2 * r + b < 4294967296 ^ (m + 1) := by
  rw [Nat.pow_succ]; omega
end Bn

/- Roots: plain numbers. -/
namespace Bn
theorem pow_sq (k : Nat) : 2 ^ k * 2 ^ k = 2 ^ (2 * k) := by rw [← Nat.pow_add]; congr 1; omega
def RootI (M r i : Nat) : Prop := r * r ≤ M ∧ M < (r + 2 ^ i) * (r + 2 ^ i)
theorem RootI.start {M N : Nat} (h : M < 2 ^ N) : RootI M 0 (N / 2 + 1) := by
  refine ⟨Nat.zero_le _, ?_⟩
  rw [Nat.zero_add, pow_sq]
  exact Nat.lt_of_lt_of_le h (Nat.pow_le_pow_right (by omega) (by omega))
theorem RootI.no {M r i : Nat} (h : RootI M r (i + 1)) (hx : ¬ (r + 2 ^ i) * (r + 2 ^ i) ≤ M) : RootI M r i := ⟨h.1, by omega⟩
theorem RootI.fin {M r : Nat} (h : RootI M r 0) : isq M = r := isq_of h.1 (by have := h.2; simpa using this)
end Bn

/- Numbers of bits: plain numbers. -/
namespace Bn
theorem val_rep (n : Nat) : val (List.replicate n 0) = 0 := by
  induction n with
  | zero => rfl
  | succ n ih => rw [List.replicate_succ, val, ih]
end Bn

/- Walks: the reference's number of bits. -/
namespace Go.Proofs.YtoiijifnfdgfpaaGreatDoor
open Go Go.RowKit Bn
attribute [local go_sem ↓] Go.wp_at_zero Go.wp_at_succ

theorem val_last {l : List Nat} (h : Wds l) (h0 : 0 < l.length) {t : Nat} (ht : wd l (l.length - 1) < 2 ^ t) : val l < 2 ^ (32 * (l.length - 1) + t) := by
  have e := Sm_ge l (Nat.le_refl _)
  obtain ⟨m, hm⟩ : ∃ m, l.length = m + 1 := ⟨l.length - 1, by omega⟩
  rw [hm] at e ht ⊢
  simp only [Nat.add_sub_cancel] at ht ⊢
  rw [Sm] at e
  have h1 : Sm (wd l) m < 4294967296 ^ m := Sm_lt (fun i _ => wd_lt h i)
  have h2 : (4294967296 : Nat) ^ m = 2 ^ (32 * m) := by rw [Nat.pow_mul]
  rw [h2] at h1 e
  rw [Nat.pow_add, ← e]
  have h3 : (wd l m + 1) * 2 ^ (32 * m) ≤ 2 ^ t * 2 ^ (32 * m) := Nat.mul_le_mul_right _ ht
  rw [Nat.add_mul] at h3
  rw [Nat.mul_comm (2 ^ (32 * m)) (2 ^ t)]
  omega
def RetB (w : World) (v n : Nat) (e : Ending) (w' : World) : Prop := ∃ N : Nat, e = .returned (.int .i64 (N : Nat)) ∧ v < 2 ^ N ∧ N ≤ 32 * n ∧ w = w'
theorem r_bits_c (w : World) (A n c l) (wa : Wd w A n c l) (hn : n ≤ 1099511627776) :
  Calls Tryz.prog 257 #[.slice A n c] w (RetB w (val l) n) := by
 have HL := Lib.hid wa.2.1
 by_cases h0 : n = 0
 ·subst h0
  have HE := Lib.hid (show val l = 0 by rw [List.eq_nil_of_length_eq_zero HL.out.symm]; rfl)
  clear wa
  go_enter Tryz.func257, Tryz.ntmps257
  go_wp2
  go_ret
  exact ⟨0, rfl, by rw [HE.out]; decide, by omega, rfl⟩
 ·obtain ⟨g, o, rfl, hgl, hc⟩ := wa.at2 (by omega)
  have hck := hc (n - 1) (by omega)
  have hlt := wa.lt (n - 1)
  have hp : 0 < n := by omega
  have HW := Lib.hid wa.1
  obtain ⟨x0, hx0⟩ : ∃ x, wd l (n - 1) = x := ⟨_, rfl⟩
  rw [hx0] at hck hlt
  have HX := Lib.hid hx0
  clear hc h0 hx0 wa
  have hn0 : ((n : Int) == 0) = false := by simp; omega
  go_enter Tryz.func257, Tryz.ntmps257
  go_wp2_with fail
  go_loop [3, 4] (fun nv xv => ∃ (t x : Nat), t ≤ 32 ∧ nv = .int .i64 ((32 * (n - 1) + t : Nat) : Int) ∧ xv = .int .u32 (x : Nat) ∧ x < 4294967296 ∧ x = x0 / 2 ^ t) (fun _ xv => (intOf xv).toNat)
  case atStart => exact ⟨0, x0, by omega, by congr 1; omega, rfl, hlt, by simp⟩
  case round =>
   obtain ⟨t, x, ht, rfl, rfl, hx, he⟩ := hrel
   have HE := Lib.hid he
   clear he
   by_cases hz : x = 0
   ·subst hz
    go_wp2
    go_ret
    refine ⟨32 * (n - 1) + t, rfl, ?_, by omega, rfl⟩
    have h1 : x0 < 2 ^ t := by
     have := HE.out
     rcases Nat.lt_or_ge x0 (2 ^ t) with h | h
     ·exact h
     ·have := Nat.div_pos h (Nat.pow_pos (by omega)); omega
    have := val_last HW.out (by rw [← HL.out]; exact hp) (t := t) (by rw [← HL.out, HX.out]; exact h1)
    rwa [← HL.out] at this
   ·have ht2 : t < 32 := by
     rcases Nat.lt_or_ge t 32 with h | h
     ·exact h
     ·exfalso
      have e : t = 32 := by omega
      have := HE.out
      rw [e] at this
      have : x = 0 := by rw [this]; exact Nat.div_eq_of_lt hlt
      omega
    have hxp : 0 < x := by omega
    go_wp2
    go_round
    case rel => exact ⟨t + 1, x / 2, by omega, by congr 1 <;> omega, by congr 1 <;> omega, by omega, by rw [HE.out, Nat.pow_succ, Nat.div_div_eq_div_mul]⟩
    case measure => simp [intOf]; omega
end Go.Proofs.YtoiijifnfdgfpaaGreatDoor

/- Walks: integer.Root. -/
namespace Go.Proofs.YtoiijifnfdgfpaaGreatDoor
open Go Go.RowKit Bn
attribute [local go_sem ↓] Go.wp_at_zero Go.wp_at_succ

def RetIe (w : World) (v : Value) (z : Int) (k : Nat) (e : Ending) (w' : World) : Prop := ∃ b A n c, e = .returned (.tuple #[.agg #[.bool b, .slice A n c], v]) ∧ IV w' b A n c z k ∧ Below w.heap.size w w'
end Go.Proofs.YtoiijifnfdgfpaaGreatDoor

/- Walks: integer.Text. -/
namespace Go.Proofs.YtoiijifnfdgfpaaGreatDoor
open Go Go.RowKit Bn
attribute [local go_sem ↓] Go.wp_at_zero Go.wp_at_succ

def Tab (w : World) : Prop := Lib.TabIs Tryz.prog w "internal/strconv.uint64pow10" .u64 Lib.pow10Tab
theorem Tab.belw {w w' : World} (h : Tab w) (hb : Below w.heap.size w w') : Tab w' := Lib.tabBelow_of_tabIs h w' hb
abbrev strV (l : List UInt8) : Value := .string ⟨l.toArray⟩
def strs (ps : List (List UInt8)) : List Value := ps.map strV
theorem strs_len (ps : List (List UInt8)) : (strs ps).length = ps.length := by simp [strs]
theorem strs_one (ps : List (List UInt8)) : ∀ u ∈ strs ps, u.oneCell' = true := by
  intro u hu
  simp only [strs, List.mem_map] at hu
  obtain ⟨x, _, rfl⟩ := hu
  rfl
theorem info_str : (Tryz.prog.info? 9).map (fun i => (i.zero, i.size, i.bytes)) = some (some (.string ⟨#[]⟩), 1, 16) := by kernel_rfl
theorem below_grow (w : World) (k : Nat) (os : Array Obj) : Below w.heap.size w (Sort.grow (w.drewN k) os) :=
  ⟨rfl, rfl, rfl, by simp [Sort.grow], fun j hj => by simp [Sort.grow, Array.getElem?_append_left hj]⟩
theorem itoa_v (w : World) (n : Int) (h0 : -9223372036854775808 ≤ n) (h1 : n ≤ 9223372036854775807) (ht : Tab w) :
    Calls Tryz.prog 41 #[.int .i64 n] w (RetV w (strV (Lib.itoa n))) :=
  (Tryz.strconv_Itoa n h0 h1 w ht).mono fun e w' ⟨he, k, os, hw⟩ => ⟨he, by rw [hw]; exact below_grow w k os⟩
def StrL (w : World) (p : Value) (ps : List (List UInt8)) : Prop := (ps = [] ∧ p = .slice none 0 0) ∨ (ps ≠ [] ∧ ∃ g cap, p = .slice (some ⟨g, 0, none⟩) ps.length cap ∧ g < w.heap.size ∧ ps.length ≤ cap ∧ ∀ j, j < ps.length → w.cell? ⟨g, j, none⟩ = (strs ps)[j]?)
theorem StrL.belw {w w' : World} {p : Value} {ps : List (List UInt8)} (h : StrL w p ps) (hb : Below w.heap.size w w') : StrL w' p ps := by
  rcases h with h | ⟨h0, g, cap, h1, h2, h3, h4⟩
  · exact .inl h
  · refine .inr ⟨h0, g, cap, h1, Nat.lt_of_lt_of_le h2 hb.size, h3, fun j hj => ?_⟩
    rw [← h4 j hj]
    simp only [World.cell?, hb.block g h2]
theorem join_v (w : World) (p : Value) (ps : List (List UInt8)) (h : StrL w p ps) (hlen : ps.flatten.length ≤ 140737488355328) (hN : ps.length ≤ 140737488355328) :
    Calls Tryz.prog 68 #[p, .string ⟨#[]⟩] w (RetV w (strV ps.flatten)) := by
  rcases h with ⟨rfl, rfl⟩ | ⟨h0, g, cap, rfl, h2, h3, h4⟩
  · exact (Tryz.strings_Join_none none 0 ⟨#[]⟩ w).mono fun e w' ⟨he, hw⟩ => ⟨he, hw ▸ Below.refl _ _⟩
  · have hm : (ps.map fun l => (⟨l.toArray⟩ : ByteArray)).map (·.data.toList) = ps := by
      rw [List.map_map]; exact (List.map_congr_left (fun a _ => by simp)).trans (List.map_id ps)
    have hl : (ps.map fun l => (⟨l.toArray⟩ : ByteArray)).length = ps.length := by simp
    have hJ : Lib.join ((ps.map fun l => (⟨l.toArray⟩ : ByteArray)).map (·.data.toList)) (⟨#[]⟩ : ByteArray).data.toList = ps.flatten := by rw [hm]; exact join_flat ps
    have := Tryz.strings_Join g 0 cap (ps.map fun l => ⟨l.toArray⟩) ⟨#[]⟩ w (fun j x hx => by
      have hj : j < ps.length := by have := (List.getElem?_eq_some_iff.1 hx).1; rw [hl] at this; exact this
      rw [Nat.zero_add, h4 j hj]
      rw [List.getElem?_map] at hx
      unfold strs
      rw [List.getElem?_map]
      cases hp : ps[j]? with
      | none => rw [hp] at hx; simp at hx
      | some y => rw [hp] at hx; simp at hx; subst hx; rfl) h2 (by rw [hl]; exact hN) (by rw [hl]; exact h3) (by rw [hJ]; exact hlen)
    rw [hJ, hl] at this
    exact this
theorem cat_v (a b : List UInt8) : ((⟨a.toArray⟩ : ByteArray) ++ ⟨b.toArray⟩) = ⟨(a ++ b).toArray⟩ := by
  apply ByteArray.ext
  simp [ByteArray.data_append]
theorem itoa_n (w : World) (z : Int) (r : Nat) (d : List UInt8) (hz : z = r) (hr : r < 1000000000) (hd : Lib.decDigits r = d) (ht : Tab w) :
    Calls Tryz.prog 41 #[.int .i64 z] w (RetV w (strV d)) := by
  subst hz hd
  rw [← Lib.itoa_nonneg]
  exact itoa_v w r (by omega) (by omega) ht
theorem repeat_v (w : World) (z : Int) (j : Nat) (d : List UInt8) (hz : z = j) (hj : j < 1000000) (hd : Lib.repeatL [48] j = d) :
    Calls Tryz.prog 86 #[.string ⟨#[48]⟩, .int .i64 z] w (RetV w (strV d)) := by
  subst hz hd
  exact Tryz.strings_Repeat ⟨#[48]⟩ j w (by omega) (by show 1 * j ≤ _; omega)
theorem short_q (w : World) (A : Option Addr) (n c q r q' : Nat) (wa : Wd w A n c (digs q)) (hn : n ≤ 1099511627776) (hr : q % 1000000000 = r) (hq : q / 1000000000 = q') :
    Calls Tryz.prog 161 #[.slice A n c, .int .u32 1000000000] w fun e w' => ∃ A1 n1 c1, e = .returned (.tuple #[.slice A1 n1 c1, .int .u32 (r : Nat)]) ∧ Wd w' A1 n1 c1 (digs q') ∧ Below w.heap.size w w' := by
  have := short_c w A n c (digs q) wa hn 1000000000 (by omega) (by omega)
  rw [val_digs, hr, hq] at this
  exact this
theorem StrL.one (w : World) (S : List UInt8) : StrL (w.alloc (.cells #[strV S] 9)) (.slice (some ⟨w.heap.size, 0, none⟩) 1 1) [S] := by
  refine .inr ⟨by simp, _, _, rfl, by simp, Nat.le_refl _, fun j hj => ?_⟩
  rw [World.cell?_alloc_new]
  have : j = 0 := by simpa using hj
  subst this
  rfl
theorem StrL.own {w : World} {base g cap : Nat} {S : List UInt8} {ps : List (List UInt8)} (h : w.ownsRow base 9 1 (.slice (some ⟨g, 0, none⟩) (1 + ps.length) cap) (1 + ps.length) ([strV S] ++ strs ps)) (hg : g < w.heap.size) :
    StrL w (.slice (some ⟨g, 0, none⟩) (1 + ps.length) cap) (S :: ps) := by
  refine .inr ⟨by simp, g, cap, by rw [List.length_cons, Nat.add_comm], hg, ?_, fun j hj => ?_⟩
  · rcases h.2 with ⟨e, _⟩ | ⟨g', c', cur, e, _, _, hc, _⟩
    · exact absurd e (by simp)
    · injection e with _ _ e2
      rw [List.length_cons]; omega
  · rw [h.cellAt j (by rw [List.length_cons] at hj; omega)]
    rfl
def TextI (N : Nat) (W0 wr : World) (m p : Value) : Prop := ∃ A1 n1 c1 q ps, m = .slice A1 n1 c1 ∧ n1 ≤ 1099511627000 ∧ Kept (Wd wr A1 n1 c1 (digs q) ∧ TxtI N q ps ∧ StrL wr p ps) ∧ Below W0.heap.size W0 wr
theorem text_C (w : World) (b : Bool) (A n c l) (wa : Wd w A n c l) (hn : n ≤ 1000000000) (ht : Tab w) :
  Calls Tryz.prog 137 #[.agg #[.bool b, .slice A n c]] w (RetV w (strV (Lib.itoa (WD.z ⟨b, l⟩)))) := by
 have HL := Lib.hid wa.2.1
 have hcm : Canon (WD.m ⟨b, l⟩) := WD.canon_m wa.1
 obtain ⟨i0, hi0, hz0, hz1, hz2⟩ := info_parts info_str
 obtain ⟨M, hM⟩ : ∃ M, WD.m ⟨b, l⟩ = digs M := ⟨_, (digs_val hcm).symm⟩
 have hab : (WD.z ⟨b, l⟩).natAbs = M := by rw [z_nat, hM, val_digs]
 obtain ⟨T, hT⟩ : ∃ T, T = Lib.itoa (WD.z ⟨b, l⟩) := ⟨_, rfl⟩
 rw [itoa_abs, hab] at hT
 rw [itoa_abs, hab, ← hT]
 have HT := Lib.hid hT
 have HTab := Lib.hid ht
 have HM := Lib.hid hM
 have HA := Lib.hid hab
 clear hT ht hM hab hcm
 have b0 : Below w.heap.size w (w.alloc (.cells #[.bool b, .slice A n c] 123)) := (Below.refl _ _).alloc (Nat.le_refl _) _
 have x0 : Blk (w.alloc (.cells #[.bool b, .slice A n c] 123)) w.heap.size 123 #[.bool b, .slice A n c] := blkAt _ _ _ rfl
 by_cases hM0 : M = 0
 ·subst hM0
  have hz : (WD.z ⟨b, l⟩) < 0 → False := by have := HA.out; omega
  have hT0 : T = [48] := by rw [HT.out, if_neg (fun h => hz h)]; exact Lib.decDigits_one (by omega)
  subst hT0
  go_enter Tryz.func137, Tryz.ntmps137
  go_wp2_with (go_at_call 119; (with_reducible refine (mag_c _ b A n c l ?_ ?_).mono ?_); (exact wa.belw b0); (omega); rintro e w1 ⟨A1, n1, c1, rfl, h1, hb1⟩; rw [HM.out, digs_zero] at h1; obtain rfl : n1 = 0 := h1.2.1)
  go_ret
  exact ⟨rfl, b0.trans (hb1.mono b0.size)⟩
 ·have hMp : 0 < M := Nat.pos_of_ne_zero hM0
  have HMP := Lib.hid hMp
  clear hM0 hMp
  go_enter Tryz.func137, Tryz.ntmps137
  go_wp2_with (go_at_call 119; (with_reducible refine (mag_c _ b A n c l ?_ ?_).mono ?_); (exact wa.belw b0); (omega); rintro e w1 ⟨A1, n1, c1, rfl, h1, hb1⟩; have hn1 : n1 ≤ 1000000000 := h1.m_len (by rw [← HL.out]; exact hn); rw [HM.out] at h1; have e1 : ((n1 : Int) == 0) = false := (by have h9 : n1 ≠ 0 := (fun e => by have h8 := h1.2.1; rw [e] at h8; exact absurd (digs_eq_nil.1 (List.eq_nil_of_length_eq_zero h8.symm)) (by have := HMP.out; omega)); simp; exact h9))
  clear e1
  go_loopw [3, 4] (fun mv pv wr => TextI M w1 wr mv pv) (fun mv _ wr => valOf wr mv)
  case atStart => exact ⟨A1, n1, c1, M, [], rfl, by omega, ⟨h1, TxtI.start HMP.out, .inl ⟨rfl, rfl⟩⟩, brefl _⟩
  case round =>
   obtain ⟨A3, n3, c3, q, ps, rfl, hn3, hK, rr⟩ := hrel
   have hm5 : valOf wr (.slice A3 n3 c3) = q := by rw [hK.1.valOf, val_digs]
   by_cases hq0 : q = 0
   ·subst hq0
    have h0 : n3 = 0 := by have := hK.1.2.1; rw [digs_zero] at this; exact this
    subst h0
    have hps : M = M ∧ Lib.decDigits M = ps.flatten := ⟨rfl, hK.2.1.2.1 rfl⟩
    have hln := hK.2.1.len
    have hnd : Lib.nDigits M ≤ 10 * 1000000000 := nDig_words' hn1 (by omega) (by have := h1.vlt (Nat.le_refl _); rw [val_digs] at this; exact this)
    have x1 : Blk w1 w.heap.size 123 #[.bool b, .slice A n c] := x0.below hb1 (by simp)
    have x2 := x1.below rr x1.lt
    have bw := ((b0.trans (hb1.mono b0.size)).trans (rr.mono (by have := hb1.size; have := b0.size; omega)))
    have HX := Lib.hid x2
    have HP := Lib.hid hps.2
    have HA2 := Lib.hid (show (WD.z ⟨b, l⟩) = sgn (WD.s ⟨b, l⟩) M by rw [WD.z_eq, HM.out, val_digs])
    clear hps x1 x2
    cases hs : WD.s ⟨b, l⟩
    ·have HS := Lib.hid hs
     have HT2 := Lib.hid (show T = ps.flatten by rw [HT.out, HP.out, HA2.out, hs, if_neg (by simp [sgn])]; rfl)
     clear hs
     go_wp2_with (first
      | (go_at_call 68; (with_reducible refine (join_v _ _ ps ?_ ?_ ?_).mono ?_); (exact hK.2.2); omega; omega; rintro e w2 ⟨rfl, hb2⟩; have x3 := HX.out.below hb2 HX.out.lt; obtain ⟨c0, c1⟩ := x3.c2)
      | (go_at_call 120; (with_reducible refine (neg_e _ b A n c l false ?_ ?_ HS.out).mono ?_); (exact wa.belw (bw.trans (hb2.mono bw.size))); omega; rintro e w3 ⟨rfl, hb3⟩))
     go_ret
     refine ⟨by rw [HT2.out]; rfl, (bw.trans (hb2.mono bw.size)).trans (hb3.mono (by have := hb2.size; have := bw.size; omega))⟩
    ·have HS := Lib.hid hs
     have HT2 := Lib.hid (show T = 45 :: ps.flatten by rw [HT.out, HP.out, HA2.out, hs, if_pos (by simp [sgn]; have := HMP.out; omega)]; rfl)
     clear hs
     have hsum : (ps.map List.length).sum ≤ Lib.nDigits M := by rw [← List.length_flatten]; exact hln.1
     go_wp2_with (first
      | (go_at_call 68; (with_reducible refine (join_v _ _ ps ?_ ?_ ?_).mono ?_); (exact hK.2.2); omega; omega; rintro e w2 ⟨rfl, hb2⟩; have x3 := HX.out.below hb2 HX.out.lt; obtain ⟨c0, c1⟩ := x3.c2)
      | (go_at_call 120; (with_reducible refine (neg_e _ b A n c l true ?_ ?_ HS.out).mono ?_); (exact wa.belw (bw.trans (hb2.mono bw.size))); omega; rintro e w3 ⟨rfl, hb3⟩))
     go_ret
     refine ⟨?_, (bw.trans (hb2.mono bw.size)).trans (hb3.mono (by have := hb2.size; have := bw.size; omega))⟩
     rw [HT2.out]
     exact congrArg (fun x => Ending.returned (.string x)) (cat_v [45] ps.flatten)
   ·have hqp : 0 < q := Nat.pos_of_ne_zero hq0
    have hn30 : n3 ≠ 0 := fun e => hq0 (digs_eq_nil.1 (List.eq_nil_of_length_eq_zero (by rw [← hK.1.2.1]; exact e)))
    have e1 : decide (0 < n3) = true := by simp; omega
    obtain ⟨r, hr⟩ : ∃ r, q % 1000000000 = r := ⟨_, rfl⟩
    have hr9 : r < 1000000000 := by rw [← hr]; exact Nat.mod_lt _ (by omega)
    obtain ⟨d, hd⟩ : ∃ d, Lib.decDigits r = d := ⟨_, rfl⟩
    obtain ⟨k, hk⟩ : ∃ k, d.length = k := ⟨_, rfl⟩
    have hkn : Lib.nDigits r = k := by rw [← hk, ← hd, Lib.decDigits_length]
    have hk9 : k ≤ 9 := by rw [← hkn]; exact nDig_le (by omega) hr9
    obtain ⟨j, hj⟩ : ∃ j, k + j = 9 := ⟨9 - k, by omega⟩
    obtain ⟨z, hz⟩ : ∃ z, Lib.repeatL [48] j = z := ⟨_, rfl⟩
    have hzl : z.length = j := by rw [← hz, Lib.repeatL_length]; simp
    obtain ⟨q', hq'⟩ : ∃ q', q / 1000000000 = q' := ⟨_, rfl⟩
    have HR := Lib.hid hr
    have HD := Lib.hid hd
    have HZ := Lib.hid hz
    have HQ := Lib.hid hq'
    have HQP := Lib.hid hqp
    have HKN := Lib.hid hkn
    have hlt : q' < q := by rw [← hq']; omega
    have HLT := Lib.hid hlt
    have bw := ((b0.trans (hb1.mono b0.size)).trans (rr.mono (by have := hb1.size; have := b0.size; omega)))
    have hnd : Lib.nDigits M ≤ 10 * 1000000000 := nDig_words' hn1 (by omega) (by have := h1.vlt (Nat.le_refl _); rw [val_digs] at this; exact this)
    have hln := hK.2.1.len
    clear hr hd hz hq' hq0 hqp hn30 hkn hlt
    by_cases h0 : q' = 0
    ·subst h0
     by_cases hp0 : ps = []
     ·subst hp0
      have hu4 : u4 = .slice none 0 0 := by
       rcases hK.2.2 with h | h
       ·exact h.2
       ·exact absurd rfl h.1
      subst hu4
      go_wp2_with (first
       | (go_at_call 161; (with_reducible refine (short_q _ A3 n3 c3 q r 0 ?_ ?_ HR.out HQ.out).mono ?_); (exact hK.1); omega; rintro e w2 ⟨A5, n5, c5, rfl, h5, hb2⟩; obtain rfl : n5 = 0 := (by have h9 := h5.2.1; rw [digs_zero] at h9; exact h9))
       | (go_at_call 41; (with_reducible refine (itoa_n _ _ r d ?_ ?_ HD.out ?_).mono ?_); (first | rfl | omega); omega; (exact HTab.out.belw (bw.trans (hb2.mono bw.size))); rintro e w3 ⟨rfl, hb3⟩)
      )
      have bl : Below wr.heap.size wr w3 := (hb2.mono (Nat.le_refl _)).trans (hb3.mono hb2.size)
      have b5 : Below w2.heap.size w2 w3 := hb3
      go_roundw
      case rel =>
       refine ⟨A5, 0, c5, 0, [d], rfl, ?_, ⟨(h5.belw b5).belw ((Below.refl _ _).alloc (Nat.le_refl _) _), by have := hK.2.1.last HQP.out HQ.out; rw [HQ.out, HR.out, HD.out] at this; exact this, ?_⟩, (rr.trans (bl.mono rr.size)).alloc (Nat.le_trans rr.size bl.size) _⟩
       ·omega
       ·have := StrL.one w3 d
        exact this
      case measure =>
       rw [((h5.belw b5).belw ((Below.refl _ _).alloc (Nat.le_refl _) _)).valOf, hm5, val_digs]; exact HLT.out
     ·have hp1 : 0 < ps.length := List.length_pos_iff.2 hp0
      obtain ⟨g, cap, hu4, hg, hcap, hcells0⟩ : ∃ g cap, u4 = .slice (some ⟨g, 0, none⟩) ps.length cap ∧ g < wr.heap.size ∧ ps.length ≤ cap ∧ ∀ j, j < ps.length → wr.cell? ⟨g, j, none⟩ = (strs ps)[j]? := by
       rcases hK.2.2 with h | h
       ·exact absurd h.1 hp0
       ·exact h.2
      subst hu4
      have hcells : ∀ w', Below wr.heap.size wr w' → ∀ S j u, (strs ps)[j]? = some u → (w'.alloc (.cells #[S] 9)).cell? ((⟨g, 0, none⟩ : Addr).add j) = some u := by
       intro w' hb S j u hu
       have hj : j < ps.length := by have := (List.getElem?_eq_some_iff.1 hu).1; rw [strs_len] at this; exact this
       rw [Lib.add_plain, Nat.zero_add, ← hu, ← hcells0 j hj]
       simp only [World.cell?, Below.heap_alloc _ _ _ (Nat.lt_of_lt_of_le hg hb.size), hb.block g hg]
      go_wp2_with (first
       | (go_at_call 161; (with_reducible refine (short_q _ A3 n3 c3 q r 0 ?_ ?_ HR.out HQ.out).mono ?_); (exact hK.1); omega; rintro e w2 ⟨A5, n5, c5, rfl, h5, hb2⟩; obtain rfl : n5 = 0 := (by have h9 := h5.2.1; rw [digs_zero] at h9; exact h9))
       | (go_at_call 41; (with_reducible refine (itoa_n _ _ r d ?_ ?_ HD.out ?_).mono ?_); (first | rfl | omega); omega; (exact HTab.out.belw (bw.trans (hb2.mono bw.size))); rintro e w3 ⟨rfl, hb3⟩)
       | (at_builtin; refine wpList_append_lies _ rfl _ _ _ rfl w3.heap.size 9 i0 (.string ⟨#[]⟩) 1 16 Tryz.underlying49 hi0 hz0 hz1 hz2 rfl (by omega) _ 1 [strV d] rfl (World.ownsRow_lit w3 #[strV d] 1 (Nat.le_refl _) (by unfold maxLen; omega) rfl) ⟨g, 0, none⟩ ps.length cap (strs ps) rfl (by rw [strs_len, Nat.mul_one]) ?_ (strs_one ps) hp1 (by unfold maxLen; omega) (by omega) (by simp) (w3.heap.size + 1) (by simp) ?_; (exact hcells _ ((hb2.mono (Nat.le_refl _)).trans (hb3.mono hb2.size)) _); intro gx cap2 w5 hown5 hgrow hat hlt5)
      )
      have bl : Below wr.heap.size wr w3 := (hb2.mono (Nat.le_refl _)).trans (hb3.mono hb2.size)
      have b5 : Below w2.heap.size w2 w3 := hb3
      have bg : Below w3.heap.size w3 w5 := ((Below.refl _ _).alloc (Nat.le_refl _) _).grown hgrow (by simp) (own_base (World.ownsRow_lit (e := 9) (size := 1) w3 #[strV d] 1 (Nat.le_refl _) (by unfold maxLen; omega) rfl))
      have bgr : Below w1.heap.size w1 w5 := ((rr.trans (bl.mono rr.size)).alloc (Nat.le_trans rr.size bl.size) _).grown hgrow (by have := rr.size; have := bl.size; simp; omega) (fun k hk => Nat.le_trans (Nat.le_trans rr.size bl.size) ((own_base (World.ownsRow_lit (e := 9) (size := 1) w3 #[strV d] 1 (Nat.le_refl _) (by unfold maxLen; omega) rfl)) k hk))
      go_roundw
      case rel =>
       refine ⟨A5, 0, c5, 0, d :: ps, rfl, ?_, ⟨(h5.belw b5).belw bg, by have := hK.2.1.last HQP.out HQ.out; rw [HQ.out, HR.out, HD.out] at this; exact this, ?_⟩, bgr⟩
       ·omega
       ·refine StrL.own (base := w3.heap.size) ?_ hlt5
        exact hown5
      case measure =>
       rw [((h5.belw b5).belw bg).valOf, hm5, val_digs]; exact HLT.out
    ·by_cases hp0 : ps = []
     ·subst hp0
      have hu4 : u4 = .slice none 0 0 := by
       rcases hK.2.2 with h | h
       ·exact h.2
       ·exact absurd rfl h.1
      subst hu4
      go_wp2_with (first
       | (go_at_call 161; (with_reducible refine (short_q _ A3 n3 c3 q r q' ?_ ?_ HR.out HQ.out).mono ?_); (exact hK.1); omega; rintro e w2 ⟨A5, n5, c5, rfl, h5, hb2⟩; have e5 : decide (0 < n5) = true := (by have : n5 ≠ 0 := (fun e => h0 (digs_eq_nil.1 (List.eq_nil_of_length_eq_zero (by rw [← h5.2.1]; exact e)))); simp; omega))
       | (go_at_call 41; (with_reducible refine (itoa_n _ _ r d ?_ ?_ HD.out ?_).mono ?_); (first | rfl | omega); omega; (exact HTab.out.belw (bw.trans (hb2.mono bw.size))); rintro e w3 ⟨rfl, hb3⟩)
       | (go_at_call 86; (with_reducible refine (repeat_v _ _ j z ?_ ?_ HZ.out).mono ?_); omega; omega; rintro e w4 ⟨rfl, hb4⟩)
      )
      have bl : Below wr.heap.size wr w4 := ((hb2.mono (Nat.le_refl _)).trans (hb3.mono hb2.size)).trans (hb4.mono (Nat.le_trans hb2.size hb3.size))
      have b5 : Below w2.heap.size w2 w4 := hb3.trans (hb4.mono hb3.size)
      go_roundw
      case rel =>
       refine ⟨A5, n5, c5, q', [(z ++ d)], rfl, ?_, ⟨(h5.belw b5).belw ((Below.refl _ _).alloc (Nat.le_refl _) _), by have := hK.2.1.more (by rw [HQ.out]; omega); rw [HQ.out, HR.out, HKN.out, HD.out, show 9 - k = j by omega, HZ.out] at this; exact this, ?_⟩, (rr.trans (bl.mono rr.size)).alloc (Nat.le_trans rr.size bl.size) _⟩
       ·rw [h5.2.1]; exact Nat.le_trans (length_digs_le (Nat.lt_trans (by first | exact HLT.out | (have := HLT.out; omega)) (by have := hK.1.vlt (Nat.le_refl _); rw [val_digs] at this; exact this))) hn3
       ·have := StrL.one w4 (z ++ d)
        rw [show strV (z ++ d) = .string (⟨z.toArray⟩ ++ ⟨d.toArray⟩) by rw [cat_v]] at this
        exact this
      case measure =>
       rw [((h5.belw b5).belw ((Below.refl _ _).alloc (Nat.le_refl _) _)).valOf, hm5, val_digs]; exact HLT.out
     ·have hp1 : 0 < ps.length := List.length_pos_iff.2 hp0
      obtain ⟨g, cap, hu4, hg, hcap, hcells0⟩ : ∃ g cap, u4 = .slice (some ⟨g, 0, none⟩) ps.length cap ∧ g < wr.heap.size ∧ ps.length ≤ cap ∧ ∀ j, j < ps.length → wr.cell? ⟨g, j, none⟩ = (strs ps)[j]? := by
       rcases hK.2.2 with h | h
       ·exact absurd h.1 hp0
       ·exact h.2
      subst hu4
      have hcells : ∀ w', Below wr.heap.size wr w' → ∀ S j u, (strs ps)[j]? = some u → (w'.alloc (.cells #[S] 9)).cell? ((⟨g, 0, none⟩ : Addr).add j) = some u := by
       intro w' hb S j u hu
       have hj : j < ps.length := by have := (List.getElem?_eq_some_iff.1 hu).1; rw [strs_len] at this; exact this
       rw [Lib.add_plain, Nat.zero_add, ← hu, ← hcells0 j hj]
       simp only [World.cell?, Below.heap_alloc _ _ _ (Nat.lt_of_lt_of_le hg hb.size), hb.block g hg]
      go_wp2_with (first
       | (go_at_call 161; (with_reducible refine (short_q _ A3 n3 c3 q r q' ?_ ?_ HR.out HQ.out).mono ?_); (exact hK.1); omega; rintro e w2 ⟨A5, n5, c5, rfl, h5, hb2⟩; have e5 : decide (0 < n5) = true := (by have : n5 ≠ 0 := (fun e => h0 (digs_eq_nil.1 (List.eq_nil_of_length_eq_zero (by rw [← h5.2.1]; exact e)))); simp; omega))
       | (go_at_call 41; (with_reducible refine (itoa_n _ _ r d ?_ ?_ HD.out ?_).mono ?_); (first | rfl | omega); omega; (exact HTab.out.belw (bw.trans (hb2.mono bw.size))); rintro e w3 ⟨rfl, hb3⟩)
       | (go_at_call 86; (with_reducible refine (repeat_v _ _ j z ?_ ?_ HZ.out).mono ?_); omega; omega; rintro e w4 ⟨rfl, hb4⟩)
       | (at_builtin; refine wpList_append_lies _ rfl _ _ _ rfl w4.heap.size 9 i0 (.string ⟨#[]⟩) 1 16 Tryz.underlying49 hi0 hz0 hz1 hz2 rfl (by omega) _ 1 [.string (⟨z.toArray⟩ ++ ⟨d.toArray⟩)] rfl (World.ownsRow_lit w4 #[.string (⟨z.toArray⟩ ++ ⟨d.toArray⟩)] 1 (Nat.le_refl _) (by unfold maxLen; omega) rfl) ⟨g, 0, none⟩ ps.length cap (strs ps) rfl (by rw [strs_len, Nat.mul_one]) ?_ (strs_one ps) hp1 (by unfold maxLen; omega) (by omega) (by simp) (w4.heap.size + 1) (by simp) ?_; (exact hcells _ (((hb2.mono (Nat.le_refl _)).trans (hb3.mono hb2.size)).trans (hb4.mono (Nat.le_trans hb2.size hb3.size))) _); intro gx cap2 w5 hown5 hgrow hat hlt5)
      )
      have bl : Below wr.heap.size wr w4 := ((hb2.mono (Nat.le_refl _)).trans (hb3.mono hb2.size)).trans (hb4.mono (Nat.le_trans hb2.size hb3.size))
      have b5 : Below w2.heap.size w2 w4 := hb3.trans (hb4.mono hb3.size)
      have bg : Below w4.heap.size w4 w5 := ((Below.refl _ _).alloc (Nat.le_refl _) _).grown hgrow (by simp) (own_base (World.ownsRow_lit (e := 9) (size := 1) w4 #[.string (⟨z.toArray⟩ ++ ⟨d.toArray⟩)] 1 (Nat.le_refl _) (by unfold maxLen; omega) rfl))
      have bgr : Below w1.heap.size w1 w5 := ((rr.trans (bl.mono rr.size)).alloc (Nat.le_trans rr.size bl.size) _).grown hgrow (by have := rr.size; have := bl.size; simp; omega) (fun k hk => Nat.le_trans (Nat.le_trans rr.size bl.size) ((own_base (World.ownsRow_lit (e := 9) (size := 1) w4 #[.string (⟨z.toArray⟩ ++ ⟨d.toArray⟩)] 1 (Nat.le_refl _) (by unfold maxLen; omega) rfl)) k hk))
      go_roundw
      case rel =>
       refine ⟨A5, n5, c5, q', (z ++ d) :: ps, rfl, ?_, ⟨(h5.belw b5).belw bg, by have := hK.2.1.more (by rw [HQ.out]; omega); rw [HQ.out, HR.out, HKN.out, HD.out, show 9 - k = j by omega, HZ.out] at this; exact this, ?_⟩, bgr⟩
       ·rw [h5.2.1]; exact Nat.le_trans (length_digs_le (Nat.lt_trans HLT.out (by have := hK.1.vlt (Nat.le_refl _); rw [val_digs] at this; exact this))) hn3
       ·refine StrL.own (base := w4.heap.size) ?_ hlt5
        rw [show strV (z ++ d) = .string (⟨z.toArray⟩ ++ ⟨d.toArray⟩) by rw [cat_v]]
        exact hown5
      case measure =>
       rw [((h5.belw b5).belw bg).valOf, hm5, val_digs]; exact HLT.out
end Go.Proofs.YtoiijifnfdgfpaaGreatDoor

/- Walks: integer.Parse. -/
namespace Go.Proofs.YtoiijifnfdgfpaaGreatDoor
open Go Go.RowKit Bn
attribute [local go_sem ↓] Go.wp_at_zero Go.wp_at_succ

theorem toList_v (l : List UInt8) : (⟨l.toArray⟩ : ByteArray).toList = l := by rw [Lib.toList_data]
theorem size_v (l : List UInt8) : (⟨l.toArray⟩ : ByteArray).size = l.length := rfl
theorem ext_v (l : List UInt8) (a b : Nat) : (⟨l.toArray⟩ : ByteArray).extract a b = ⟨((l.drop a).take (b - a)).toArray⟩ := by
  apply ByteArray.ext
  rw [ByteArray.data_extract]
  simp
theorem prefix_v (w : World) (l : List UInt8) (m : Bool) (hm : headM l = m) : Calls Tryz.prog 125 #[strV l, .string ⟨#[45]⟩] w (RetV w (.bool m)) := by
  subst hm
  refine (Tryz.strings_HasPrefix ⟨l.toArray⟩ ⟨#[45]⟩ w).mono fun e w' ⟨he, hw⟩ => ⟨?_, hw ▸ brefl _⟩
  rw [he]
  exact congrArg (fun x => Ending.returned (.bool x)) (hasPrefix_m l)
theorem tprefix_v (w : World) (l t : List UInt8) (ht : tailS l = t) : Calls Tryz.prog 126 #[strV l, .string ⟨#[45]⟩] w (RetV w (strV t)) := by
  subst ht
  refine (Tryz.strings_TrimPrefix ⟨l.toArray⟩ ⟨#[45]⟩ w).mono fun e w' ⟨he, hw⟩ => ⟨?_, hw ▸ brefl _⟩
  rw [he]
  exact congrArg (fun x : List UInt8 => Ending.returned (strV x)) (trimPrefix_m l)
theorem trim_v (w : World) (t x : List UInt8) (hn : t.length ≤ 1000000) (hx : Lib.trimS t digs10 = x) : Calls Tryz.prog 127 #[strV t, .string ⟨#[48, 49, 50, 51, 52, 53, 54, 55, 56, 57]⟩] w (RetV w (strV x)) := by
  subst hx
  exact Any.strings_Trim_laid Tryz.lays160 (by kernel_rfl) ⟨t.toArray⟩ ⟨#[48, 49, 50, 51, 52, 53, 54, 55, 56, 57]⟩ w (by show t.length ≤ _; omega) (by decide) (ascii_of_all (by decide))
theorem atoi_v (w : World) (t : List UInt8) (x : Nat) (hn : t.length ≤ 9) (h0 : t ≠ []) (ha : t.all isDg = true) (hx : decVal t = x) : Calls Tryz.prog 131 #[strV t] w (RetV w (.tuple #[.int .i64 (x : Nat), .nilIface])) := by
  subst hx
  refine (Tryz.strconv_Atoi ⟨t.toArray⟩ (decVal t : Nat) (by show t.length ≤ 18; omega) (atoi_dec ha h0) w).mono fun e w' ⟨he, t, hw⟩ => ⟨he, ?_⟩
  rw [hw]
  exact ⟨rfl, rfl, rfl, by rw [Lib.bytesWorld_size]; omega, fun j hj => Lib.bytesWorld_at_old _ _ _ j hj⟩
def ParseI (T : List UInt8) (W0 wr : World) (tv mv : Value) : Prop := ∃ pre rest A1 n1 c1, tv = strV rest ∧ mv = .slice A1 n1 c1 ∧ n1 ≤ 65536 ∧ rest.length ≤ 65536 ∧ Kept (GrpI T pre rest ∧ pre.all isDg = true ∧ rest.all isDg = true ∧ Wd wr A1 n1 c1 (digs (decVal pre))) ∧ Below W0.heap.size W0 wr
def strLen : Value → Nat
  | .string s => s.size
  | _ => 0
theorem plus_k (w : World) (A : Option Addr) (n c x : Nat) (wa : Wd w A n c (digs x)) (hn : n ≤ 1099511627776) (A' : Option Addr) (n' c' y : Nat) (wb : Wd w A' n' c' (digs y)) (hn' : n' ≤ 1099511627776) :
    Calls Tryz.prog 132 #[.slice A n c, .slice A' n' c'] w (RetL w (digs (x + y))) := by
  have := plus_c w A n c (digs x) wa hn A' n' c' (digs y) wb hn'
  rw [val_digs, val_digs] at this
  exact this
theorem times_n (w : World) (A : Option Addr) (n c x : Nat) (wa : Wd w A n c (digs x)) (hn : n ≤ 1099511627776) (g : Nat) (z : Int) (y : Nat) (hz : z = y) (hy : y < 4294967296) (hb : Blk w g 82 #[.int .u32 z]) :
    Calls Tryz.prog 133 #[.slice A n c, .slice (some ⟨g, 0, none⟩) 1 1] w (RetL w (digs (x * y))) := by
  subst hz
  have h1 : Wd w (some ⟨g, 0, none⟩) 1 1 [y] := Blk.wdN (l := [y]) hb (by intro x hx; simp at hx; omega) rfl
  have := times_c w A n c (digs x) wa hn (some ⟨g, 0, none⟩) 1 1 [y] h1 (by omega)
  rw [val_digs, show val [y] = y by simp [val]] at this
  exact this
theorem trim_n (w : World) (g : Nat) (z : Int) (y : Nat) (hz : z = y) (hy : y < 4294967296) (hb : Blk w g 82 #[.int .u32 z]) :
    Calls Tryz.prog 134 #[.slice (some ⟨g, 0, none⟩) 1 1] w (RetL w (digs y)) := by
  subst hz
  have h1 : Wd w (some ⟨g, 0, none⟩) 1 1 [y] := Blk.wdN (l := [y]) hb (by intro x hx; simp at hx; omega) rfl
  have := trim_c w (some ⟨g, 0, none⟩) 1 1 [y] h1 (by omega)
  rw [show val [y] = y by simp [val]] at this
  exact this
theorem i_parse_ok (w : World) (l : List UInt8) (hl : l.length ≤ 65536) (hb : okZ l = true) :
    Calls Tryz.prog 76 #[strV l] w (RetIe w .nilIface (valZ l) l.length) := by
  have hsz := size_v l
  have htl2 := tailS_len l
  have htl := Nat.le_trans htl2 hl
  obtain ⟨m, hm⟩ : ∃ m, headM l = m := ⟨_, rfl⟩
  obtain ⟨t, ht⟩ : ∃ t, tailS l = t := ⟨_, rfl⟩
  obtain ⟨h0, h1, h2⟩ := okZ_parts hb
  have hv : valZ l = if m then -(decVal t : Int) else decVal t := by unfold valZ; rw [hm, ht]
  rw [hm, ht] at h2
  rw [ht] at htl htl2 h0 h1
  have HM := Lib.hid (And.intro hm ht)
  have HV := Lib.hid hv
  have b0 : Below w.heap.size w (w.alloc (.cells #[.bool false, .slice none 0 0] 123)) := (brefl w).alloc (Nat.le_refl _) _
  have x0 : Blk (w.alloc (.cells #[.bool false, .slice none 0 0] 123)) w.heap.size 123 #[.bool false, .slice none 0 0] := blkAt _ _ _ rfl
  clear hb hm ht hv
  obtain ⟨c, r, rfl⟩ := List.exists_cons_of_ne_nil h0
  have htl0 := toList_v (c :: r)
  have htl1 := toList_v []
  have hsz0 := size_v (c :: r)
  have HX := Lib.hid (trim_dg.2 h1)
  have HTL := Lib.hid (show (c :: r : List UInt8).length ≤ 1000000 by omega)
  have HALL := Lib.hid h1
  have hcase : c ≠ 48 ∨ (c = 48 ∧ r = [] ∧ m = false) := by
    by_cases hc : c = 48
    · refine .inr ⟨hc, ?_, ?_⟩
      · cases r with
        | nil => rfl
        | cons d rs => exact absurd ⟨by rw [hc]; rfl, .inl (by simp)⟩ h2
      · cases m with
        | false => rfl
        | true => exact absurd ⟨by rw [hc]; rfl, .inr rfl⟩ h2
    · exact .inl hc
  have HLL := Lib.hid htl
  have HSZ := Lib.hid (show (valZ l).natAbs < 4294967296 ^ l.length by
    rw [HV.out]
    refine Nat.lt_of_lt_of_le (show (if m = true then -(decVal (c :: r) : Int) else (decVal (c :: r) : Int)).natAbs < 4294967296 ^ (c :: r).length by
      have := decVal_words h1
      split <;> omega) (Nat.pow_le_pow_right (by omega) htl2))
  clear h0 h1 h2
  rcases hcase with hc | ⟨rfl, rfl, rfl⟩
  · have hcn : c.toNat ≠ 48 := fun e => hc (UInt8.toNat.inj e)
    have hcz : ¬ (c.toNat : Int) = 48 := by omega
    have hcb : ((c.toNat : Int) == 48) = false := by simp; omega
    have hget : ∀ h, (⟨(c :: r).toArray⟩ : ByteArray)[0]'h = c := fun h => rfl
    go_enter Tryz.func76, Tryz.ntmps76
    go_wp2_with (first
      | (go_at_call 125; (with_reducible refine (prefix_v _ l _ HM.out.1).mono ?_); rintro e w1 ⟨rfl, hb1⟩; have b1 := b0.trans (hb1.mono b0.size); have x1 := x0.below hb1 x0.lt)
      | (go_at_call 126; (with_reducible refine (tprefix_v _ l _ HM.out.2).mono ?_); rintro e w2 ⟨rfl, hb2⟩; have b2 := b1.trans (hb2.mono b1.size); have x2 := x1.below hb2 x1.lt)
      | (go_at_call 127; (with_reducible refine (trim_v _ _ [] ?_ HX.out).mono ?_); (exact HTL.out); rintro e w3 ⟨rfl, hb3⟩; have b3 := b2.trans (hb3.mono b2.size); have x3 := x2.below hb3 x2.lt))
    clear hget hcz hcb hcn hc htl0 htl1 hsz0
    go_loopw [5, 6] (fun tv mv wr => ParseI (c :: r) w3 wr tv mv) (fun tv _ _ => strLen tv)
    case atStart => exact ⟨[], (c :: r), none, 0, 0, rfl, rfl, by omega, HLL.out, ⟨GrpI.start _, rfl, HALL.out, by rw [show decVal [] = 0 from rfl, digs_zero]; exact Wd.nil_ _⟩, brefl _⟩
    case round =>
      obtain ⟨pre, rest, A1, n1, c1, rfl, rfl, hn1, hrl, hK, rr⟩ := hrel
      have bw := b3.trans (rr.mono b3.size)
      have x4 := x3.below rr x3.lt
      by_cases hr0 : rest = []
      · subst hr0
        have hpre := hK.1.fin
        subst hpre
        have hsz1 := size_v []
        go_wp2_with (go_at_call 122; (with_reducible refine (whole_c _ m A1 n1 c1 (digs (decVal (c :: r))) ?_ ?_).mono ?_); (exact hK.2.2.2); omega; rintro e w5 ⟨A5, n5, c5, rfl, h5, hb5⟩; have b5 := bw.trans (hb5.mono bw.size); have x5 := x4.below hb5 x4.lt; obtain ⟨d0, d1⟩ := x5.c2; obtain ⟨f0, f1⟩ := x5.f2)
        rw [val_digs] at h5
        have hz : sgn m (decVal (c :: r)) = valZ l := by rw [HV.out]; rfl
        rw [hz] at h5
        refine bodyPost_ret (v := .tuple #[.agg #[.bool _, .slice A5 n5 c5], .nilIface]) (by simp [results, Tryz.results76, go_sem, *] <;> trivial) rfl ?_
        exact ⟨_, _, _, _, rfl, IV.mk_ (h5.keep (kp2 x5.box (by decide) _ _ _ _)) (by rw [val_digs, hz]) HSZ.out, (b5.setCell (by dsimp only; omega) _).setCell (by dsimp only; omega) _⟩
      · have hlp : 0 < rest.length := List.length_pos_iff.2 hr0
        obtain ⟨L, hL⟩ : ∃ L, rest.length = L := ⟨_, rfl⟩
        obtain ⟨k, hk⟩ : ∃ k, (L - 1) % 9 = k := ⟨_, rfl⟩
        have hk9 : k < 9 := by rw [← hk]; exact Nat.mod_lt _ (by omega)
        have hst := hK.1.step (n := k + 1) hlp (by rw [hL, hk])
        rw [hL] at hst hlp hrl
        have hkL := hst.1
        have hsz1 : (⟨rest.toArray⟩ : ByteArray).size = L := hL
        have e1 : ((L : Int) - 1) % 9 = (k : Int) := by omega
        have e2 : (⟨rest.toArray⟩ : ByteArray).extract 0 (k + 1) = ⟨(rest.take (k + 1)).toArray⟩ := by rw [ext_v]; simp
        have e3 : (⟨rest.toArray⟩ : ByteArray).extract (k + 1) L = ⟨(rest.drop (k + 1)).toArray⟩ := by rw [ext_v, List.take_of_length_le]; rw [List.length_drop, hL]; exact Nat.le_refl _
        obtain ⟨x, hx⟩ : ∃ x, decVal (rest.take (k + 1)) = x := ⟨_, rfl⟩
        have htk := all_take hK.2.2.1 (k + 1)
        have hx9 : x < 1000000000 := by
          have h9 := decVal_lt htk
          rw [hx] at h9
          refine Nat.lt_of_lt_of_le h9 (Nat.le_trans (Nat.pow_le_pow_right (by omega) (show (rest.take (k + 1)).length ≤ 9 by rw [List.length_take]; omega)) (by decide))
        have hpd := all_drop hK.2.2.1 (k + 1)
        have HST := Lib.hid hst
        have HXX := Lib.hid hx
        have HTK := Lib.hid htk
        have HLR := Lib.hid hL
        have hnd : (rest.drop (k + 1)).length = L - (k + 1) := by rw [List.length_drop, hL]
        have HND := Lib.hid hnd
        have hT1 : (rest.take (k + 1)).length ≤ 9 := by rw [List.length_take]; omega
        have hT0 : rest.take (k + 1) ≠ [] := fun e => by have := congrArg List.length e; rw [List.length_take, hL] at this; simp at this; omega
        have HT1 := Lib.hid (And.intro hT1 hT0)
        have hpl := decVal_lt (show (pre ++ rest.take (k + 1)).all isDg = true by rw [List.all_append, hK.2.1, htk]; rfl)
        clear hk hst hx htk hL hr0 hnd hT1 hT0
        go_wp2_with (first
          | (go_at_call 131; (with_reducible refine (atoi_v _ (rest.take (k + 1)) x ?_ ?_ ?_ HXX.out).mono ?_); (exact HT1.out.1); (exact HT1.out.2); (exact HTK.out); rintro e w5 ⟨rfl, hb5⟩; have b5 : Below wr.heap.size wr (w5.alloc (.cells #[.int .u32 1000000000] 82)) := hb5.alloc hb5.size _; have y5 : Blk (w5.alloc (.cells #[.int .u32 1000000000] 82)) w5.heap.size 82 #[.int .u32 1000000000] := blkAt _ _ _ rfl)
          | (go_at_call 133; (with_reducible refine (times_n _ A1 n1 c1 (decVal pre) ?_ ?_ w5.heap.size 1000000000 1000000000 ?_ ?_ ?_).mono ?_); (exact hK.2.2.2.belw b5); omega; rfl; omega; (exact y5); rintro e w6 ⟨A6, n6, c6, rfl, h6, hb6⟩; have b6 := b5.trans (hb6.mono b5.size); have hn6 : n6 ≤ 1000000000 := (by have h9 := h6.2.1; rw [h9]; refine Nat.le_trans (length_digs_le (k := n1 + 1) ?_) (by omega); have h8 := (hK.2.2.2).vlt (Nat.le_refl _); rw [val_digs] at h8; rw [Nat.pow_succ]; exact Nat.mul_lt_mul'' h8 (by omega)))
          | (go_at_call 134; (with_reducible refine (trim_n _ w6.heap.size (x : Int) x ?_ ?_ ?_).mono ?_); (first | rfl | omega); omega; (exact blkAt _ _ _ rfl); rintro e w7 ⟨A7, n7, c7, rfl, h7, hb7⟩; have b7 : Below wr.heap.size wr w7 := (b6.alloc b6.size _).trans (hb7.mono (by have := b6.size; simp; omega)); have h67 : Below w6.heap.size w6 w7 := ((brefl w6).alloc (Nat.le_refl _) _).trans (hb7.mono (by simp)); have hn7 : n7 ≤ 1000000000 := (by have h9 := h7.2.1; rw [h9]; exact Nat.le_trans (length_digs_le (k := 1) (by omega)) (by omega)))
          | (go_at_call 132; (with_reducible refine (plus_k _ A6 n6 c6 (decVal pre * 1000000000) ?_ ?_ A7 n7 c7 x ?_ ?_).mono ?_); (exact h6.belw h67); omega; (exact h7); omega; rintro e w8 ⟨A8, n8, c8, rfl, h8, hb8⟩; have b8 := b7.trans (hb8.mono b7.size)))
        have hv8 : decVal pre * 1000000000 + x = decVal (pre ++ rest.take (k + 1)) := by rw [HST.out.2.2.2.2, HXX.out]
        go_roundw
        case rel =>
          refine ⟨pre ++ rest.take (k + 1), rest.drop (k + 1), A8, n8, c8, rfl, rfl, ?_, by rw [HND.out]; omega, ⟨HST.out.2.2.2.1, by rw [List.all_append, hK.2.1, HTK.out]; rfl, hpd, by rw [← hv8]; exact h8⟩, rr.trans (b8.mono rr.size)⟩
          rw [h8.2.1, hv8]
          refine Nat.le_trans (length_digs_le (Nat.lt_of_lt_of_le hpl (len_ten _))) ?_
          have h9 := congrArg List.length HST.out.2.2.2.1.1
          rw [List.length_append] at h9
          omega
        case measure =>
          show (rest.drop (k + 1)).length < rest.length
          rw [HND.out, HLR.out]; omega
  · go_enter Tryz.func76, Tryz.ntmps76
    go_wp2_with (first
      | (go_at_call 125; (with_reducible refine (prefix_v _ l _ HM.out.1).mono ?_); rintro e w1 ⟨rfl, hb1⟩; have b1 := b0.trans (hb1.mono b0.size); have x1 := x0.below hb1 x0.lt)
      | (go_at_call 126; (with_reducible refine (tprefix_v _ l _ HM.out.2).mono ?_); rintro e w2 ⟨rfl, hb2⟩; have b2 := b1.trans (hb2.mono b1.size); have x2 := x1.below hb2 x1.lt)
      | (go_at_call 127; (with_reducible refine (trim_v _ _ [] ?_ HX.out).mono ?_); (exact HTL.out); rintro e w3 ⟨rfl, hb3⟩; have b3 := b2.trans (hb3.mono b2.size); have x3 := x2.below hb3 x2.lt))
    clear htl0 htl1
    go_loopw [5, 6] (fun tv mv wr => ParseI [48] w3 wr tv mv) (fun tv _ _ => strLen tv)
    case atStart => exact ⟨[], [48], none, 0, 0, rfl, rfl, by omega, HLL.out, ⟨GrpI.start _, rfl, HALL.out, by rw [show decVal [] = 0 from rfl, digs_zero]; exact Wd.nil_ _⟩, brefl _⟩
    case round =>
      obtain ⟨pre, rest, A1, n1, c1, rfl, rfl, hn1, hrl, hK, rr⟩ := hrel
      have bw := b3.trans (rr.mono b3.size)
      have x4 := x3.below rr x3.lt
      by_cases hr0 : rest = []
      · subst hr0
        have hpre := hK.1.fin
        subst hpre
        have hsz1 := size_v []
        go_wp2_with (go_at_call 122; (with_reducible refine (whole_c _ false A1 n1 c1 (digs (decVal [48])) ?_ ?_).mono ?_); (exact hK.2.2.2); omega; rintro e w5 ⟨A5, n5, c5, rfl, h5, hb5⟩; have b5 := bw.trans (hb5.mono bw.size); have x5 := x4.below hb5 x4.lt; obtain ⟨d0, d1⟩ := x5.c2; obtain ⟨f0, f1⟩ := x5.f2)
        rw [val_digs] at h5
        have hz : sgn false (decVal [48]) = valZ l := by rw [HV.out]; rfl
        rw [hz] at h5
        refine bodyPost_ret (v := .tuple #[.agg #[.bool _, .slice A5 n5 c5], .nilIface]) (by simp [results, Tryz.results76, go_sem, *] <;> trivial) rfl ?_
        exact ⟨_, _, _, _, rfl, IV.mk_ (h5.keep (kp2 x5.box (by decide) _ _ _ _)) (by rw [val_digs, hz]) HSZ.out, (b5.setCell (by dsimp only; omega) _).setCell (by dsimp only; omega) _⟩
      · have hlp : 0 < rest.length := List.length_pos_iff.2 hr0
        obtain ⟨L, hL⟩ : ∃ L, rest.length = L := ⟨_, rfl⟩
        obtain ⟨k, hk⟩ : ∃ k, (L - 1) % 9 = k := ⟨_, rfl⟩
        have hk9 : k < 9 := by rw [← hk]; exact Nat.mod_lt _ (by omega)
        have hst := hK.1.step (n := k + 1) hlp (by rw [hL, hk])
        rw [hL] at hst hlp hrl
        have hkL := hst.1
        have hsz1 : (⟨rest.toArray⟩ : ByteArray).size = L := hL
        have e1 : ((L : Int) - 1) % 9 = (k : Int) := by omega
        have e2 : (⟨rest.toArray⟩ : ByteArray).extract 0 (k + 1) = ⟨(rest.take (k + 1)).toArray⟩ := by rw [ext_v]; simp
        have e3 : (⟨rest.toArray⟩ : ByteArray).extract (k + 1) L = ⟨(rest.drop (k + 1)).toArray⟩ := by rw [ext_v, List.take_of_length_le]; rw [List.length_drop, hL]; exact Nat.le_refl _
        obtain ⟨x, hx⟩ : ∃ x, decVal (rest.take (k + 1)) = x := ⟨_, rfl⟩
        have htk := all_take hK.2.2.1 (k + 1)
        have hx9 : x < 1000000000 := by
          have h9 := decVal_lt htk
          rw [hx] at h9
          refine Nat.lt_of_lt_of_le h9 (Nat.le_trans (Nat.pow_le_pow_right (by omega) (show (rest.take (k + 1)).length ≤ 9 by rw [List.length_take]; omega)) (by decide))
        have hpd := all_drop hK.2.2.1 (k + 1)
        have HST := Lib.hid hst
        have HXX := Lib.hid hx
        have HTK := Lib.hid htk
        have HLR := Lib.hid hL
        have hnd : (rest.drop (k + 1)).length = L - (k + 1) := by rw [List.length_drop, hL]
        have HND := Lib.hid hnd
        have hT1 : (rest.take (k + 1)).length ≤ 9 := by rw [List.length_take]; omega
        have hT0 : rest.take (k + 1) ≠ [] := fun e => by have := congrArg List.length e; rw [List.length_take, hL] at this; simp at this; omega
        have HT1 := Lib.hid (And.intro hT1 hT0)
        have hpl := decVal_lt (show (pre ++ rest.take (k + 1)).all isDg = true by rw [List.all_append, hK.2.1, htk]; rfl)
        clear hk hst hx htk hL hr0 hnd hT1 hT0
        go_wp2_with (first
          | (go_at_call 131; (with_reducible refine (atoi_v _ (rest.take (k + 1)) x ?_ ?_ ?_ HXX.out).mono ?_); (exact HT1.out.1); (exact HT1.out.2); (exact HTK.out); rintro e w5 ⟨rfl, hb5⟩; have b5 : Below wr.heap.size wr (w5.alloc (.cells #[.int .u32 1000000000] 82)) := hb5.alloc hb5.size _; have y5 : Blk (w5.alloc (.cells #[.int .u32 1000000000] 82)) w5.heap.size 82 #[.int .u32 1000000000] := blkAt _ _ _ rfl)
          | (go_at_call 133; (with_reducible refine (times_n _ A1 n1 c1 (decVal pre) ?_ ?_ w5.heap.size 1000000000 1000000000 ?_ ?_ ?_).mono ?_); (exact hK.2.2.2.belw b5); omega; rfl; omega; (exact y5); rintro e w6 ⟨A6, n6, c6, rfl, h6, hb6⟩; have b6 := b5.trans (hb6.mono b5.size); have hn6 : n6 ≤ 1000000000 := (by have h9 := h6.2.1; rw [h9]; refine Nat.le_trans (length_digs_le (k := n1 + 1) ?_) (by omega); have h8 := (hK.2.2.2).vlt (Nat.le_refl _); rw [val_digs] at h8; rw [Nat.pow_succ]; exact Nat.mul_lt_mul'' h8 (by omega)))
          | (go_at_call 134; (with_reducible refine (trim_n _ w6.heap.size (x : Int) x ?_ ?_ ?_).mono ?_); (first | rfl | omega); omega; (exact blkAt _ _ _ rfl); rintro e w7 ⟨A7, n7, c7, rfl, h7, hb7⟩; have b7 : Below wr.heap.size wr w7 := (b6.alloc b6.size _).trans (hb7.mono (by have := b6.size; simp; omega)); have h67 : Below w6.heap.size w6 w7 := ((brefl w6).alloc (Nat.le_refl _) _).trans (hb7.mono (by simp)); have hn7 : n7 ≤ 1000000000 := (by have h9 := h7.2.1; rw [h9]; exact Nat.le_trans (length_digs_le (k := 1) (by omega)) (by omega)))
          | (go_at_call 132; (with_reducible refine (plus_k _ A6 n6 c6 (decVal pre * 1000000000) ?_ ?_ A7 n7 c7 x ?_ ?_).mono ?_); (exact h6.belw h67); omega; (exact h7); omega; rintro e w8 ⟨A8, n8, c8, rfl, h8, hb8⟩; have b8 := b7.trans (hb8.mono b7.size)))
        have hv8 : decVal pre * 1000000000 + x = decVal (pre ++ rest.take (k + 1)) := by rw [HST.out.2.2.2.2, HXX.out]
        go_roundw
        case rel =>
          refine ⟨pre ++ rest.take (k + 1), rest.drop (k + 1), A8, n8, c8, rfl, rfl, ?_, by rw [HND.out]; omega, ⟨HST.out.2.2.2.1, by rw [List.all_append, hK.2.1, HTK.out]; rfl, hpd, by rw [← hv8]; exact h8⟩, rr.trans (b8.mono rr.size)⟩
          rw [h8.2.1, hv8]
          refine Nat.le_trans (length_digs_le (Nat.lt_of_lt_of_le hpl (len_ten _))) ?_
          have h9 := congrArg List.length HST.out.2.2.2.1.1
          rw [List.length_append] at h9
          omega
        case measure =>
          show (rest.drop (k + 1)).length < rest.length
          rw [HND.out, HLR.out]; omega
end Go.Proofs.YtoiijifnfdgfpaaGreatDoor

/- Tokens: plain. -/
namespace Bn
def isLet (c : UInt8) : Bool := (decide (97 ≤ c.toNat) && decide (c.toNat ≤ 122)) || (decide (65 ≤ c.toNat) && decide (c.toNat ≤ 90))
def isPart (c : UInt8) : Bool := isLet c || isDg c || c == 95
def isSgn (c : UInt8) : Bool := c == 123 || c == 125 || c == 59 || c == 46
def isBlk (c : UInt8) : Bool := c == 32 || c == 9 || c == 13
def wordN : List UInt8 → Nat
  | [] => 0
  | c :: t => if isLet c then 1 + (t.takeWhile isPart).length else 0
def digN (r : List UInt8) : Nat := (r.takeWhile isDg).length
def minN : List UInt8 → Nat
  | 45 :: _ => 1
  | _ => 0
def tailN : List UInt8 → Nat
  | c :: t => if (c == 46 || c == 47) && decide (0 < digN t) then 1 + digN t else 0
  | [] => 0
def numN (r : List UInt8) : Nat := if digN (r.drop (minN r)) = 0 then 0 else minN r + digN (r.drop (minN r)) + tailN (r.drop (minN r + digN (r.drop (minN r))))
def badEnd : List UInt8 → Bool
  | c :: _ => isLet c || c == 95 || c == 46 || c == 47
  | [] => false
inductive First where
  | ok (kind n : Nat)
  | err (x : Nat)
def firstT (r : List UInt8) : First := match r with
  | [] => .err 2
  | c :: _ => if isSgn c then .ok 2 1 else if 0 < wordN r then (if 24 < wordN r then .err 5 else .ok 0 (wordN r))
    else if numN r = 0 then .err 2 else if 60 < numN r then .err 4 else if badEnd (r.drop (numN r)) then .err 2 else .ok 1 (numN r)
structure Tkn where
  kind : Nat
  text : List UInt8
  line : Nat
  col : Nat
deriving DecidableEq
inductive Toks where
  | ok (l : List Tkn)
  | err (x : Nat)
def Toks.push (t : Tkn) : Toks → Toks
  | .ok l => .ok (t :: l)
  | .err x => .err x
def comN (r : List UInt8) : Nat := (r.takeWhile (fun c => c != 10)).length
def toks : Nat → List UInt8 → Nat → Nat → Toks
  | 0, _, _, _ => .ok []
  | _ + 1, [], _, _ => .ok []
  | f + 1, c :: t, line, col =>
    if c = 10 then toks f t (line + 1) 1
    else if isBlk c then toks f t line (col + 1)
    else if c = 37 then toks f ((c :: t).drop (comN (c :: t))) line (col + comN (c :: t))
    else match firstT (c :: t) with
      | .err x => .err x
      | .ok k n => (toks f ((c :: t).drop n) line (col + n)).push ⟨k, (c :: t).take n, line, col⟩
theorem tw_le (p : UInt8 → Bool) (l : List UInt8) : (l.takeWhile p).length ≤ l.length := (List.takeWhile_sublist p).length_le
theorem digN_le (r : List UInt8) : digN r ≤ r.length := tw_le _ _
theorem wordN_le : ∀ (r : List UInt8), wordN r ≤ r.length
  | [] => Nat.le_refl _
  | c :: t => by
    rw [wordN]
    have := tw_le isPart t
    simp only [List.length_cons]
    split <;> omega
theorem tailN_le : ∀ (r : List UInt8), tailN r ≤ r.length
  | [] => Nat.le_refl _
  | c :: t => by
    rw [tailN]
    have := digN_le t
    simp only [List.length_cons]
    split <;> omega
theorem minN_le : ∀ (r : List UInt8), minN r ≤ r.length
  | [] => Nat.le_refl _
  | c :: t => by unfold minN; split <;> simp
theorem numN_le (r : List UInt8) : numN r ≤ r.length := by
  unfold numN
  split
  · omega
  · have h1 := digN_le (r.drop (minN r))
    have h2 := tailN_le (r.drop (minN r + digN (r.drop (minN r))))
    have h3 := minN_le r
    rw [List.length_drop] at h1 h2
    omega
theorem comN_le (r : List UInt8) : comN r ≤ r.length := tw_le _ _
theorem comN_pos {t : List UInt8} : 0 < comN (37 :: t) := by unfold comN; simp
theorem firstT_ok {r : List UInt8} {k n : Nat} (h : firstT r = .ok k n) : 0 < n ∧ n ≤ r.length := by
  unfold firstT at h
  split at h
  · cases h
  · rename_i c t
    split at h
    · injection h with _ h; subst h; simp
    · split at h
      · split at h
        · cases h
        · injection h with _ h; subst h; exact ⟨by assumption, wordN_le _⟩
      · split at h
        · cases h
        · split at h
          · cases h
          · split at h
            · cases h
            · injection h with _ h; subst h; exact ⟨by omega, numN_le _⟩
theorem toks_fuel : ∀ (f g : Nat) (r : List UInt8) (line col : Nat), r.length < f → r.length < g → toks f r line col = toks g r line col := by
  intro f
  induction f with
  | zero => intro g r _ _ h; omega
  | succ f ih =>
    intro g r line col hf hg
    cases g with
    | zero => omega
    | succ g =>
      cases r with
      | nil => rfl
      | cons c t =>
        simp only [List.length_cons] at hf hg
        unfold toks
        split
        · exact ih g t _ _ (by omega) (by omega)
        · split
          · exact ih g t _ _ (by omega) (by omega)
          · split
            · rename_i h37
              subst h37
              have h1 := comN_pos (t := t)
              have h2 := comN_le (37 :: t)
              simp only [List.length_cons] at h2
              exact ih g _ _ _ (by rw [List.length_drop]; simp only [List.length_cons]; omega) (by rw [List.length_drop]; simp only [List.length_cons]; omega)
            · split
              · rfl
              · rename_i k n h
                have h1 := firstT_ok h
                simp only [List.length_cons] at h1
                rw [ih g _ _ _ (by rw [List.length_drop]; simp only [List.length_cons]; omega) (by rw [List.length_drop]; simp only [List.length_cons]; omega)]
def tokens (s : List UInt8) : Toks := toks (s.length + 1) s 1 1
end Bn

/- Tokens of joined texts: plain. -/
namespace Bn
def sepB (c : UInt8) : Bool := c == 32 || c == 9 || c == 10 || c == 13 || c == 37
def SepE (e : List UInt8) : Prop := e = [] ∨ ∃ c t, e = c :: t ∧ sepB c = true
theorem sepB_not {c : UInt8} (h : sepB c = true) : isPart c = false ∧ isDg c = false ∧ (c == 46) = false ∧ (c == 47) = false ∧ isLet c = false ∧ (c == 95) = false := by
  unfold sepB at h
  simp only [Bool.or_eq_true, beq_iff_eq] at h
  rcases h with (((h | h) | h) | h) | h <;> subst h <;> decide
theorem tw_all {p : UInt8 → Bool} : ∀ (l : List UInt8), (l.takeWhile p).all p = true := by
  intro l
  induction l with
  | nil => rfl
  | cons x r ih =>
    rw [List.takeWhile_cons]
    split
    · rename_i h; rw [List.all_cons, h, ih]; rfl
    · rfl
theorem tw_app {p : UInt8 → Bool} : ∀ {a : List UInt8} (e : List UInt8), a.all p = true → (∀ c t, e = c :: t → p c = false) → (a ++ e).takeWhile p = a := by
  intro a
  induction a with
  | nil =>
    intro e _ he
    cases e with
    | nil => rfl
    | cons c t => rw [List.nil_append, List.takeWhile_cons, he c t rfl]; rfl
  | cons x r ih =>
    intro e h he
    rw [List.all_cons, Bool.and_eq_true] at h
    rw [List.cons_append, List.takeWhile_cons, h.1, if_pos rfl, ih e h.2 he]
theorem tw_split (p : UInt8 → Bool) (l : List UInt8) : ∃ d, l = l.takeWhile p ++ d ∧ (∀ c t, d = c :: t → p c = false) := by
  refine ⟨l.dropWhile p, (List.takeWhile_append_dropWhile).symm, fun c t h => ?_⟩
  induction l with
  | nil => simp at h
  | cons x r ih =>
    rw [List.dropWhile_cons] at h
    split at h
    · exact ih h
    · injection h with h1 _; subst h1; simp_all
theorem SepE.np {e : List UInt8} (h : SepE e) (c : UInt8) (t : List UInt8) (he : e = c :: t) : sepB c = true := by
  rcases h with h | ⟨c', t', h, hs⟩
  · rw [h] at he; cases he
  · rw [h] at he; injection he with h1 _; rw [← h1]; exact hs
theorem dg_no10 {l : List UInt8} (h : l.all isDg = true) : 10 ∉ l := fun h1 => by
  rw [List.all_eq_true] at h
  exact absurd (h 10 h1) (by decide)
theorem tail_form (r : List UInt8) : ∃ M d, r = M ++ d ∧ tailN r = M.length ∧ 10 ∉ M ∧ ∀ e, SepE e → tailN (M ++ e) = M.length ∧ (∀ c t, M ++ e = c :: t → isDg c = false) := by
  have hs : ∀ e, SepE e → tailN ([] ++ e) = 0 ∧ (∀ c t, ([] : List UInt8) ++ e = c :: t → isDg c = false) := by
    intro e he
    rw [List.nil_append]
    refine ⟨?_, fun c t h => (sepB_not (he.np c t h)).2.1⟩
    cases e with
    | nil => rfl
    | cons c t =>
      have := sepB_not (he.np c t rfl)
      rw [tailN, this.2.2.1, this.2.2.2.1]; rfl
  cases r with
  | nil => exact ⟨[], [], rfl, rfl, by simp, hs⟩
  | cons c t =>
    by_cases h : ((c == 46 || c == 47) && decide (0 < digN t)) = true
    · obtain ⟨d, h1, h2⟩ := tw_split isDg t
      have h3 : (c == 46 || c == 47) = true := by rw [Bool.and_eq_true] at h; exact h.1
      have h4 : 0 < digN t := by rw [Bool.and_eq_true, decide_eq_true_eq] at h; exact h.2
      refine ⟨c :: t.takeWhile isDg, d, by rw [List.cons_append, ← h1], ?_, ?_, ?_⟩
      · rw [tailN, h, if_pos rfl, List.length_cons]; unfold digN; omega
      · intro h6
        rcases List.mem_cons.1 h6 with e | e
        · subst e; exact absurd h3 (by decide)
        · exact dg_no10 (tw_all t) e
      · intro e he
        have h5 : digN (t.takeWhile isDg ++ e) = (t.takeWhile isDg).length := by
          unfold digN
          rw [tw_app e (tw_all t) (fun c t h => (sepB_not (he.np c t h)).2.1)]
        refine ⟨?_, fun c' t' h' => ?_⟩
        · rw [List.cons_append, tailN, h5, h3]
          have : 0 < (t.takeWhile isDg).length := h4
          rw [if_pos (by simp; exact this), List.length_cons]; omega
        · injection h' with h6 _
          subst h6
          rw [Bool.or_eq_true, beq_iff_eq, beq_iff_eq] at h3
          rcases h3 with e | e <;> subst e <;> decide
    · have h' : ((c == 46 || c == 47) && decide (0 < digN t)) = false := by simpa using h
      exact ⟨[], c :: t, rfl, by rw [tailN, h']; rfl, by simp, hs⟩
theorem minN_digit {c : UInt8} {t : List UInt8} (h : isDg c = true) : minN (c :: t) = 0 := by
  unfold minN
  split
  · rename_i h1; injection h1 with h1 _; subst h1; exact absurd h (by decide)
  · rfl
theorem num_form {r : List UInt8} (h : 0 < numN r) : ∃ P d c t, r = P ++ d ∧ P.length = numN r ∧ P = c :: t ∧ (isDg c = true ∨ c = 45) ∧ 10 ∉ P ∧ ∀ e, SepE e → numN (P ++ e) = P.length := by
  have hk : 0 < digN (r.drop (minN r)) := by
    rcases Nat.eq_zero_or_pos (digN (r.drop (minN r))) with e | e
    · unfold numN at h; rw [if_pos e] at h; omega
    · exact e
  obtain ⟨d0, e0, g0⟩ := tw_split isDg (r.drop (minN r))
  obtain ⟨D, hD⟩ : ∃ D, (r.drop (minN r)).takeWhile isDg = D := ⟨_, rfl⟩
  have hDa : D.all isDg = true := by rw [← hD]; exact tw_all _
  have hDl : digN (r.drop (minN r)) = D.length := by unfold digN; rw [hD]
  rw [hD] at e0
  rw [hDl] at hk
  obtain ⟨x, D', hx⟩ : ∃ x D', D = x :: D' := by
    cases D with
    | nil => simp at hk
    | cons x D' => exact ⟨x, D', rfl⟩
  have hxd : isDg x = true := by rw [hx, List.all_cons, Bool.and_eq_true] at hDa; exact hDa.1
  have hdd : (r.drop (minN r)).drop D.length = d0 := by rw [e0]; simp
  obtain ⟨M, d, e1, e2, e10, e3⟩ := tail_form d0
  have hn : numN r = minN r + D.length + M.length := by
    unfold numN
    rw [hDl, if_neg (by omega), ← List.drop_drop, hdd, e2]
  have hmin : (minN r = 0 ∧ r = D ++ d0) ∨ (minN r = 1 ∧ r = 45 :: (D ++ d0)) := by
    cases r with
    | nil => simp [minN] at e0; left; exact ⟨rfl, by simpa using e0⟩
    | cons c t =>
      by_cases hc : c = 45
      · subst hc; right; refine ⟨rfl, ?_⟩
        have : minN (45 :: t) = 1 := rfl
        rw [this] at e0
        simp at e0
        rw [← e0]
      · left
        have : minN (c :: t) = 0 := by
          unfold minN; split
          · rename_i h1; injection h1 with h1 _; exact absurd h1 hc
          · rfl
        refine ⟨this, ?_⟩
        rw [this] at e0
        simpa using e0
  have key : ∀ e, SepE e → digN (D ++ (M ++ e)) = D.length ∧ tailN (M ++ e) = M.length := by
    intro e he
    obtain ⟨h1, h2⟩ := e3 e he
    refine ⟨?_, h1⟩
    unfold digN
    rw [tw_app (M ++ e) hDa h2]
  rcases hmin with ⟨m0, hr⟩ | ⟨m1, hr⟩
  · refine ⟨D ++ M, d, x, D' ++ M, by rw [hr, e1, List.append_assoc], by rw [hn, m0, List.length_append]; omega, by rw [hx]; rfl, .inl hxd, fun h => by rcases List.mem_append.1 h with h | h; exact dg_no10 hDa h; exact e10 h, fun e he => ?_⟩
    obtain ⟨h1, h2⟩ := key e he
    have hm : minN (D ++ M ++ e) = 0 := by rw [hx]; exact minN_digit hxd
    unfold numN
    rw [hm, List.drop_zero, List.append_assoc, h1, if_neg (by omega), Nat.zero_add, List.drop_left, h2, List.length_append]
  · refine ⟨45 :: (D ++ M), d, 45, D ++ M, by rw [hr, e1, List.cons_append, List.append_assoc], by rw [hn, m1, List.length_cons, List.length_append]; omega, rfl, .inr rfl, fun h => by rcases List.mem_cons.1 h with h | h; exact absurd h (by decide); rcases List.mem_append.1 h with h | h; exact dg_no10 hDa h; exact e10 h, fun e he => ?_⟩
    obtain ⟨h1, h2⟩ := key e he
    have hm : minN (45 :: (D ++ M) ++ e) = 1 := rfl
    unfold numN
    rw [hm]
    rw [show (45 :: (D ++ M) ++ e).drop 1 = D ++ (M ++ e) by simp]
    rw [h1, if_neg (by omega), ← List.drop_drop]
    rw [show (45 :: (D ++ M) ++ e).drop 1 = D ++ (M ++ e) by simp]
    rw [List.drop_left, h2, List.length_cons, List.length_append]
    omega
theorem first_no10 {r : List UInt8} {k n : Nat} (h : firstT r = .ok k n) : 10 ∉ r.take n := by
  unfold firstT at h
  split at h
  · cases h
  · rename_i c t
    split at h
    · rename_i hs
      injection h with h1 h2; subst h2
      intro h3
      have h4 : (10 : UInt8) = c := by simpa using h3
      subst h4; exact absurd hs (by decide)
    · split at h
      · rename_i hw
        split at h
        · cases h
        · injection h with h1 h2
          have hl : isLet c = true := by
            rw [wordN] at hw; split at hw
            · assumption
            · omega
          have hwn : wordN (c :: t) = 1 + (t.takeWhile isPart).length := by rw [wordN, hl, if_pos rfl]
          obtain ⟨d, e1, _⟩ := tw_split isPart t
          have ht : (c :: t).take n = c :: t.takeWhile isPart := by
            rw [← h2, hwn, Nat.add_comm, List.take_succ_cons]
            congr 1
            exact (congrArg (List.take _) e1).trans List.take_left
          rw [ht]
          intro h3
          rcases List.mem_cons.1 h3 with e | e
          · subst e; exact absurd hl (by decide)
          · have := tw_all (p := isPart) t
            rw [List.all_eq_true] at this
            exact absurd (this 10 e) (by decide)
      · split at h
        · cases h
        · rename_i hn0
          split at h
          · cases h
          · split at h
            · cases h
            · injection h with h1 h2
              obtain ⟨P, d, x, P', e1, e2, e3, e4, e10, e5⟩ := num_form (Nat.pos_of_ne_zero hn0)
              have hP : (c :: t).take n = P := by rw [← h2, ← e2, e1]; exact List.take_left
              rw [hP]; exact e10
end Bn

/- Tokens of joined texts, blanks and comments between them: plain. -/
namespace Bn
def tk (r : List UInt8) (line col : Nat) : Toks := toks (r.length + 1) r line col
theorem tk_nil (line col : Nat) : tk [] line col = .ok [] := rfl
theorem tk_line (t : List UInt8) (line col : Nat) : tk (10 :: t) line col = tk t (line + 1) 1 := by
  unfold tk
  rw [List.length_cons]
  conv => lhs; unfold toks
  rw [if_pos rfl]
theorem isBlk_not {c : UInt8} (h : isBlk c = true) : c ≠ 10 := by
  rintro rfl; exact absurd h (by decide)
theorem tk_blank {c : UInt8} (h : isBlk c = true) (t : List UInt8) (line col : Nat) : tk (c :: t) line col = tk t line (col + 1) := by
  unfold tk
  rw [List.length_cons]
  conv => lhs; unfold toks
  rw [if_neg (isBlk_not h), if_pos h]
theorem tk_com (t : List UInt8) (line col : Nat) : tk (37 :: t) line col = tk ((37 :: t).drop (comN (37 :: t))) line (col + comN (37 :: t)) := by
  have h1 := comN_pos (t := t)
  have h2 := comN_le (37 :: t)
  unfold tk
  conv => lhs; rw [List.length_cons]; unfold toks
  rw [if_neg (by decide), if_neg (by decide), if_pos rfl]
  simp only [List.length_cons] at h2
  refine toks_fuel _ _ _ _ _ ?_ ?_ <;> rw [List.length_drop, List.length_cons] <;> omega
theorem firstT_head {c : UInt8} {t : List UInt8} {k n : Nat} (h : firstT (c :: t) = .ok k n) : c ≠ 10 ∧ isBlk c = false ∧ c ≠ 37 := by
  have key : ∀ c : UInt8, isSgn c = false → isLet c = false → isDg c = false → c ≠ 45 → ∀ t k n, firstT (c :: t) ≠ .ok k n := by
    intro c h1 h2 h3 h4 t k n h
    have hw : wordN (c :: t) = 0 := by rw [wordN, h2]; rfl
    have hm : minN (c :: t) = 0 := by
      unfold minN; split
      · rename_i h5; injection h5 with h5 _; exact absurd h5 h4
      · rfl
    have hn : numN (c :: t) = 0 := by
      unfold numN
      rw [hm, List.drop_zero, if_pos (by unfold digN; rw [List.takeWhile_cons, h3]; rfl)]
    unfold firstT at h
    simp [h1, hw, hn] at h
  refine ⟨?_, ?_, ?_⟩
  · rintro rfl; exact key 10 (by decide) (by decide) (by decide) (by decide) t k n h
  · cases hb : isBlk c
    · rfl
    · exfalso
      unfold isBlk at hb
      simp only [Bool.or_eq_true, beq_iff_eq] at hb
      rcases hb with (e | e) | e <;> subst e
      · exact key 32 (by decide) (by decide) (by decide) (by decide) t k n h
      · exact key 9 (by decide) (by decide) (by decide) (by decide) t k n h
      · exact key 13 (by decide) (by decide) (by decide) (by decide) t k n h
  · rintro rfl; exact key 37 (by decide) (by decide) (by decide) (by decide) t k n h
theorem tk_tok {c : UInt8} {t : List UInt8} {k n : Nat} (h : firstT (c :: t) = .ok k n) (line col : Nat) :
    tk (c :: t) line col = (tk ((c :: t).drop n) line (col + n)).push ⟨k, (c :: t).take n, line, col⟩ := by
  obtain ⟨h1, h2, h3⟩ := firstT_head h
  have h4 := firstT_ok h
  unfold tk
  conv => lhs; rw [List.length_cons]; unfold toks
  rw [if_neg h1, if_neg (by rw [h2]; simp), if_neg h3, h]
  simp only [List.length_cons] at h4
  dsimp only
  rw [toks_fuel (t.length + 1) (((c :: t).drop n).length + 1) _ _ _ (by rw [List.length_drop, List.length_cons]; omega) (by omega)]
theorem tk_err {c : UInt8} {t : List UInt8} {x : Nat} (h : firstT (c :: t) = .err x) (h1 : c ≠ 10) (h2 : isBlk c = false) (h3 : c ≠ 37) (line col : Nat) : tk (c :: t) line col = .err x := by
  unfold tk
  rw [List.length_cons]
  unfold toks
  rw [if_neg h1, if_neg (by rw [h2]; simp), if_neg h3, h]
def Skip (s : List UInt8) : Prop := ∀ rest line col, ∃ line' col', tk (s ++ rest) line col = tk rest line' col'
theorem Skip.nil : Skip [] := fun _ line col => ⟨line, col, rfl⟩
theorem Skip.line {s : List UInt8} (h : Skip s) : Skip (10 :: s) := fun rest line col => by
  obtain ⟨a, b, e⟩ := h rest (line + 1) 1
  exact ⟨a, b, by rw [List.cons_append, tk_line, e]⟩
theorem Skip.blank {c : UInt8} {s : List UInt8} (hc : isBlk c = true) (h : Skip s) : Skip (c :: s) := fun rest line col => by
  obtain ⟨a, b, e⟩ := h rest line (col + 1)
  exact ⟨a, b, by rw [List.cons_append, tk_blank hc, e]⟩
def shape : Toks → Option (List (Nat × List UInt8))
  | .ok l => some (l.map fun t => (t.kind, t.text))
  | .err _ => none
theorem shape_push (t : Tkn) (x : Toks) : shape (x.push t) = (shape x).map ((t.kind, t.text) :: ·) := by
  cases x <;> rfl
end Bn

/- Every token stands at its place: plain. -/
namespace Bn
def After (line col : Nat) (t : Tkn) : Prop := line < t.line ∨ (line = t.line ∧ col ≤ t.col)
theorem After.mono {line col col' : Nat} {t : Tkn} (h : After line col' t) (hc : col ≤ col') : After line col t := by
  rcases h with h | ⟨h, h1⟩
  · exact .inl h
  · exact .inr ⟨h, Nat.le_trans hc h1⟩
theorem toks_after : ∀ (f : Nat) (r : List UInt8) (line col : Nat) (l : List Tkn), toks f r line col = .ok l → ∀ t ∈ l, After line col t := by
  intro f
  induction f with
  | zero => intro r line col l h t ht; unfold toks at h; injection h with h; subst h; cases ht
  | succ f ih =>
    intro r line col l h t ht
    cases r with
    | nil => unfold toks at h; injection h with h; subst h; cases ht
    | cons c s =>
      unfold toks at h
      split at h
      · rcases ih _ _ _ _ h t ht with e | ⟨e, _⟩
        · exact .inl (by omega)
        · exact .inl (by omega)
      · split at h
        · exact (ih _ _ _ _ h t ht).mono (by omega)
        · split at h
          · exact (ih _ _ _ _ h t ht).mono (by omega)
          · split at h
            · cases h
            · rename_i k n hf
              cases hx : toks f ((c :: s).drop n) line (col + n) with
              | err x => rw [hx] at h; cases h
              | ok l' =>
                rw [hx] at h
                injection h with h
                subst h
                rcases List.mem_cons.1 ht with e | e
                · subst e; exact .inr ⟨rfl, Nat.le_refl _⟩
                · exact (ih _ _ _ _ hx t e).mono (by omega)
def PlI (s : List UInt8) (l : List Tkn) (i line col k left : Nat) : Prop := k ≤ l.length ∧ ∃ u rest, s.drop i = u ++ rest ∧ 10 ∉ u ∧ tk rest line (col + u.length) = .ok (l.drop k) ∧ (left = u.length ∨ left = 0)
theorem PlI.start {s : List UInt8} {l : List Tkn} (h : tokens s = .ok l) : PlI s l 0 1 1 0 0 := ⟨Nat.zero_le _, [], s, rfl, by simp, h, .inr rfl⟩
theorem PlI.fin {s : List UInt8} {l : List Tkn} {line col k left : Nat} (h : PlI s l s.length line col k left) : k = l.length := by
  obtain ⟨hk, u, rest, h1, _, h2, _⟩ := h
  rw [List.drop_length] at h1
  have h3 := List.append_eq_nil_iff.1 h1.symm
  rw [h3.2, tk_nil] at h2
  injection h2 with h2
  have := congrArg List.length h2
  rw [List.length_drop] at this
  simp at this; omega
def meets (l : List Tkn) (line col k left : Nat) : Bool := decide (left = 0) && (match l[k]? with | some t => decide (t.line = line) && decide (t.col = col) | none => false)
def nextLine (c : UInt8) (line : Nat) : Nat := if c = 10 then line + 1 else line
def nextCol (c : UInt8) (col : Nat) : Nat := if c = 10 then 1 else col + 1
theorem meets_no {l : List Tkn} {line col k left : Nat} {line' col' : Nat} (h : ∀ t ∈ l.drop k, After line' col' t) (hp : line < line' ∨ (line = line' ∧ col < col')) : meets l line col k left = false := by
  unfold meets
  cases hk : l[k]? with
  | none => simp
  | some t =>
    have hm : t ∈ l.drop k := by
      obtain ⟨h1, h2⟩ := List.getElem?_eq_some_iff.1 hk
      rw [List.drop_eq_getElem_cons h1, h2]; simp
    have := h t hm
    have h3 : ¬ (t.line = line ∧ t.col = col) := by
      rintro ⟨a, b⟩
      rcases this with e | ⟨e, e2⟩ <;> rcases hp with g | ⟨g, g2⟩ <;> omega
    simp only [Bool.and_eq_false_iff, decide_eq_false_iff_not]
    right
    by_cases ha : t.line = line
    · right; exact fun hb => h3 ⟨ha, hb⟩
    · left; exact ha
theorem PlI.inner {s : List UInt8} {l : List Tkn} {i line col k left : Nat} {c : UInt8} {t u rest : List UInt8} (hk : k ≤ l.length) (hd : s.drop i = c :: t) (h1 : s.drop i = u ++ rest) (hu : 10 ∉ u) (h2 : tk rest line (col + u.length) = .ok (l.drop k)) (h3 : left = u.length ∨ left = 0) (hne : u ≠ []) :
    meets l line col k left = false ∧ PlI s l (i + 1) (nextLine c line) (nextCol c col) k (left - 1) := by
  obtain ⟨x, u', rfl⟩ := List.exists_cons_of_ne_nil hne
  have hx : x = c ∧ t = u' ++ rest := by rw [hd] at h1; injection h1 with a b; exact ⟨a.symm, b⟩
  obtain ⟨rfl, ht⟩ := hx
  have hx10 : x ≠ 10 := fun e => hu (by rw [e]; simp)
  rw [List.length_cons] at h2 h3
  have hd1 : s.drop (i + 1) = t := by rw [← List.drop_drop, hd]; rfl
  refine ⟨meets_no (toks_after _ _ _ _ _ h2) (.inr ⟨rfl, by omega⟩), hk, u', rest, by rw [hd1, ht], fun h => hu (by simp [h]), ?_, by omega⟩
  unfold nextLine nextCol
  rw [if_neg hx10, if_neg hx10, show col + 1 + u'.length = col + (u'.length + 1) by omega]
  exact h2
theorem PlI.step {s : List UInt8} {l : List Tkn} {i line col k left : Nat} (h : PlI s l i line col k left) {c : UInt8} {t : List UInt8} (hd : s.drop i = c :: t) :
    (meets l line col k left = false ∧ PlI s l (i + 1) (nextLine c line) (nextCol c col) k (left - 1)) ∨
    (meets l line col k left = true ∧ ∃ x, l[k]? = some x ∧ 0 < x.text.length ∧ i + x.text.length ≤ s.length ∧ (s.drop i).take x.text.length = x.text ∧ PlI s l (i + 1) (nextLine c line) (nextCol c col) (k + 1) (x.text.length - 1)) := by
  obtain ⟨hk, u, rest, h1, hu, h2, h3⟩ := h
  by_cases hne : u = []
  · subst hne
    rw [List.nil_append] at h1
    rw [List.length_nil, Nat.add_zero] at h2
    have hl0 : left = 0 := by rcases h3 with e | e <;> simpa using e
    subst hl0
    have hd1 : s.drop (i + 1) = t := by rw [← List.drop_drop, hd]; rfl
    have hr : rest = c :: t := by rw [← h1, hd]
    subst hr
    by_cases h10 : c = 10
    · subst h10
      rw [tk_line] at h2
      left
      refine ⟨meets_no (toks_after _ _ _ _ _ h2) (.inl (by omega)), hk, [], t, by rw [hd1]; rfl, by simp, ?_, .inr rfl⟩
      exact h2
    · by_cases hb : isBlk c = true
      · rw [tk_blank hb] at h2
        left
        refine ⟨meets_no (toks_after _ _ _ _ _ h2) (.inr ⟨rfl, by omega⟩), hk, [], t, by rw [hd1]; rfl, by simp, ?_, .inr rfl⟩
        unfold nextLine nextCol
        rw [if_neg h10, if_neg h10]
        exact h2
      · by_cases h37 : c = 37
        · subst h37
          rw [tk_com] at h2
          left
          have hp := comN_pos (t := t)
          have hle := comN_le (37 :: t)
          have hlen : ((37 :: t).take (comN (37 :: t))).length = comN (37 :: t) := by rw [List.length_take]; omega
          refine PlI.inner hk hd (h1.trans (List.take_append_drop _ _).symm) ?_ (by rw [hlen]; exact h2) (.inr rfl) (fun e => by rw [e] at hlen; simp at hlen; omega)
          intro hm
          have : (37 :: t).take (comN (37 :: t)) = (37 :: t).takeWhile (fun c => c != 10) := by
            obtain ⟨d, e, _⟩ := tw_split (fun c => c != 10) (37 :: t)
            exact (congrArg (List.take _) e).trans List.take_left
          rw [this] at hm
          have h4 := tw_all (p := fun c => c != 10) (37 :: t)
          rw [List.all_eq_true] at h4
          exact absurd (h4 10 hm) (by decide)
        · cases hf : firstT (c :: t) with
          | err x => rw [tk_err hf h10 (by simpa using hb) h37] at h2; cases h2
          | ok kk n =>
            rw [tk_tok hf] at h2
            have hn := firstT_ok hf
            cases hx : tk ((c :: t).drop n) line (col + n) with
            | err x => rw [hx] at h2; cases h2
            | ok l' =>
              rw [hx] at h2
              injection h2 with h2
              have hkl : k < l.length := by
                rcases Nat.lt_or_ge k l.length with e | e
                · exact e
                · rw [List.drop_eq_nil_of_le e] at h2; cases h2
              rw [List.drop_eq_getElem_cons hkl] at h2
              injection h2 with h4 h5
              have hlt : ((c :: t).take n).length = n := by rw [List.length_take]; omega
              right
              have hg : l[k]? = some ⟨kk, (c :: t).take n, line, col⟩ := by rw [List.getElem?_eq_getElem hkl, h4]
              have hlen : i + n ≤ s.length := by
                have := congrArg List.length hd
                rw [List.length_drop] at this
                have h7 : (c :: t).length ≤ s.length - i := by omega
                have h8 : 0 < (c :: t).length := by simp
                omega
              refine ⟨?_, ⟨kk, (c :: t).take n, line, col⟩, hg, by dsimp only; omega, by dsimp only; omega, by dsimp only; rw [hlt, hd], ?_⟩
              · unfold meets; rw [hg]; simp
              · dsimp only
                rw [hlt]
                obtain ⟨m, rfl⟩ : ∃ m, n = m + 1 := ⟨n - 1, by omega⟩
                have hno := first_no10 hf
                rw [List.take_succ_cons] at hno
                refine ⟨by omega, t.take m, t.drop m, by rw [hd1, List.take_append_drop], fun h => hno (by simp [h]), ?_, .inl ?_⟩
                · unfold nextLine nextCol
                  rw [if_neg h10, if_neg h10]
                  have hm : (t.take m).length = m := by rw [List.length_take]; simp at hn; omega
                  rw [hm, ← h5]
                  rw [List.drop_succ_cons] at hx
                  rw [show col + 1 + m = col + (m + 1) by omega]
                  exact hx
                · rw [List.length_take]; simp at hn; omega
  · exact .inl (PlI.inner hk hd h1 hu h2 h3 hne)
end Bn

/- Walks: tokens: what a byte is. -/
namespace Go.Proofs.YtoiijifnfdgfpaaGreatDoor
open Go Go.RowKit Bn
attribute [local go_sem ↓] Go.wp_at_zero Go.wp_at_succ
theorem beq_nat (c d : UInt8) : (c == d) = decide (c.toNat = d.toNat) := by
  by_cases h : c = d
  · subst h; simp
  · rw [beq_eq_false_iff_ne.2 h, decide_eq_false (fun e => h (UInt8.toNat.inj e))]
theorem isLet_nat (c : UInt8) : isLet c = ((decide (97 ≤ c.toNat) && decide (c.toNat ≤ 122)) || (decide (65 ≤ c.toNat) && decide (c.toNat ≤ 90))) := rfl
theorem isDg_nat (c : UInt8) : isDg c = (decide (48 ≤ c.toNat) && decide (c.toNat ≤ 57)) := rfl
theorem isSgn_nat (c : UInt8) : isSgn c = (decide (c.toNat = 123) || decide (c.toNat = 125) || decide (c.toNat = 59) || decide (c.toNat = 46)) := by unfold isSgn; rw [beq_nat, beq_nat, beq_nat, beq_nat]; rfl
theorem t_letter (w : World) (c : UInt8) (v : Bool) (hv : isLet c = v) : Calls Tryz.prog 112 #[.int .u8 (c.toNat : Nat)] w (RetV w (.bool v)) := by
 have hc : c.toNat < 256 := c.toNat_lt
 obtain ⟨n, hn⟩ : ∃ n, c.toNat = n := ⟨_, rfl⟩
 rw [hn] at hc ⊢
 have hd : v = ((decide (97 ≤ n) && decide (n ≤ 122)) || (decide (65 ≤ n) && decide (n ≤ 90))) := by rw [← hv, isLet_nat, hn]
 clear hv
 rcases (show (0 ≤ n ∧ n ≤ 64) ∨ (65 ≤ n ∧ n ≤ 90) ∨ (91 ≤ n ∧ n ≤ 96) ∨ (97 ≤ n ∧ n ≤ 122) ∨ (123 ≤ n ∧ n ≤ 255) by omega) with ⟨ha, hb⟩ | ⟨ha, hb⟩ | ⟨ha, hb⟩ | ⟨ha, hb⟩ | ⟨ha, hb⟩
 ·have ege97 : ((97 : Int) ≤ (n : Int)) = False := by simp; omega
  have ele122 : ((n : Int) ≤ 122) = True := by simp; omega
  have ege65 : ((65 : Int) ≤ (n : Int)) = False := by simp; omega
  have ele90 : ((n : Int) ≤ 90) = True := by simp; omega
  obtain rfl : v = false := by rw [hd]; simp; omega
  clear hd hn
  go_enter Tryz.func112, Tryz.ntmps112
  go_wp2_with fail
  go_ret
  exact retB rfl (brefl w)
 ·have ege97 : ((97 : Int) ≤ (n : Int)) = False := by simp; omega
  have ele122 : ((n : Int) ≤ 122) = True := by simp; omega
  have ege65 : ((65 : Int) ≤ (n : Int)) = True := by simp; omega
  have ele90 : ((n : Int) ≤ 90) = True := by simp; omega
  obtain rfl : v = true := by rw [hd]; simp; omega
  clear hd hn
  go_enter Tryz.func112, Tryz.ntmps112
  go_wp2_with fail
  go_ret
  exact retB rfl (brefl w)
 ·have ege97 : ((97 : Int) ≤ (n : Int)) = False := by simp; omega
  have ele122 : ((n : Int) ≤ 122) = True := by simp; omega
  have ege65 : ((65 : Int) ≤ (n : Int)) = True := by simp; omega
  have ele90 : ((n : Int) ≤ 90) = False := by simp; omega
  obtain rfl : v = false := by rw [hd]; simp; omega
  clear hd hn
  go_enter Tryz.func112, Tryz.ntmps112
  go_wp2_with fail
  go_ret
  exact retB rfl (brefl w)
 ·have ege97 : ((97 : Int) ≤ (n : Int)) = True := by simp; omega
  have ele122 : ((n : Int) ≤ 122) = True := by simp; omega
  have ege65 : ((65 : Int) ≤ (n : Int)) = True := by simp; omega
  have ele90 : ((n : Int) ≤ 90) = False := by simp; omega
  obtain rfl : v = true := by rw [hd]; simp; omega
  clear hd hn
  go_enter Tryz.func112, Tryz.ntmps112
  go_wp2_with fail
  go_ret
  exact retB rfl (brefl w)
 ·have ege97 : ((97 : Int) ≤ (n : Int)) = True := by simp; omega
  have ele122 : ((n : Int) ≤ 122) = False := by simp; omega
  have ege65 : ((65 : Int) ≤ (n : Int)) = True := by simp; omega
  have ele90 : ((n : Int) ≤ 90) = False := by simp; omega
  obtain rfl : v = false := by rw [hd]; simp; omega
  clear hd hn
  go_enter Tryz.func112, Tryz.ntmps112
  go_wp2_with fail
  go_ret
  exact retB rfl (brefl w)
theorem t_digit (w : World) (c : UInt8) (v : Bool) (hv : isDg c = v) : Calls Tryz.prog 190 #[.int .u8 (c.toNat : Nat)] w (RetV w (.bool v)) := by
 have hc : c.toNat < 256 := c.toNat_lt
 obtain ⟨n, hn⟩ : ∃ n, c.toNat = n := ⟨_, rfl⟩
 rw [hn] at hc ⊢
 have hd : v = (decide (48 ≤ n) && decide (n ≤ 57)) := by rw [← hv, isDg_nat, hn]
 clear hv
 rcases (show (0 ≤ n ∧ n ≤ 47) ∨ (48 ≤ n ∧ n ≤ 57) ∨ (58 ≤ n ∧ n ≤ 255) by omega) with ⟨ha, hb⟩ | ⟨ha, hb⟩ | ⟨ha, hb⟩
 ·have ege48 : ((48 : Int) ≤ (n : Int)) = False := by simp; omega
  have ele57 : ((n : Int) ≤ 57) = True := by simp; omega
  obtain rfl : v = false := by rw [hd]; simp; omega
  clear hd hn
  go_enter Tryz.func190, Tryz.ntmps190
  go_wp2_with fail
  go_ret
  exact retB rfl (brefl w)
 ·have ege48 : ((48 : Int) ≤ (n : Int)) = True := by simp; omega
  have ele57 : ((n : Int) ≤ 57) = True := by simp; omega
  obtain rfl : v = true := by rw [hd]; simp; omega
  clear hd hn
  go_enter Tryz.func190, Tryz.ntmps190
  go_wp2_with fail
  go_ret
  exact retB rfl (brefl w)
 ·have ege48 : ((48 : Int) ≤ (n : Int)) = True := by simp; omega
  have ele57 : ((n : Int) ≤ 57) = False := by simp; omega
  obtain rfl : v = false := by rw [hd]; simp; omega
  clear hd hn
  go_enter Tryz.func190, Tryz.ntmps190
  go_wp2_with fail
  go_ret
  exact retB rfl (brefl w)
end Go.Proofs.YtoiijifnfdgfpaaGreatDoor

/- Walks: tokens: words, digits. -/
namespace Go.Proofs.YtoiijifnfdgfpaaGreatDoor
open Go Go.RowKit Bn
attribute [local go_sem ↓] Go.wp_at_zero Go.wp_at_succ
def atB (s : List UInt8) (i : Nat) : UInt8 := s.getD i 0
theorem atB_lt {s : List UInt8} {i : Nat} (h : i < s.length) : atB s i = s[i] := by unfold atB; rw [List.getD_eq_getElem?_getD, List.getElem?_eq_getElem h]; rfl
theorem atB_ge {s : List UInt8} {i : Nat} (h : s.length ≤ i) : atB s i = 0 := by unfold atB; rw [List.getD_eq_getElem?_getD, List.getElem?_eq_none h]; rfl
theorem drop_at {s : List UInt8} {i : Nat} (h : i < s.length) : s.drop i = atB s i :: s.drop (i + 1) := by rw [atB_lt h]; exact List.drop_eq_getElem_cons h
theorem tw_step {p : UInt8 → Bool} {s : List UInt8} {i : Nat} (hp : p 0 = false) (h : p (atB s i) = true) : i < s.length ∧ ((s.drop i).takeWhile p).length = 1 + ((s.drop (i + 1)).takeWhile p).length := by
  have hl : i < s.length := by
    rcases Nat.lt_or_ge i s.length with x | x
    · exact x
    · rw [atB_ge x, hp] at h; cases h
  refine ⟨hl, ?_⟩
  rw [drop_at hl, List.takeWhile_cons, if_pos h, List.length_cons]; omega
theorem tw_stop {p : UInt8 → Bool} {s : List UInt8} {i : Nat} (h : p (atB s i) = false) : ((s.drop i).takeWhile p).length = 0 := by
  rcases Nat.lt_or_ge i s.length with x | x
  · rw [drop_at x, List.takeWhile_cons, if_neg (by rw [h]; decide)]; rfl
  · rw [List.drop_eq_nil_of_le x]; rfl
theorem wordN_at {s : List UInt8} {i : Nat} (h : isLet (atB s i) = true) : i < s.length ∧ wordN (s.drop i) = 1 + ((s.drop (i + 1)).takeWhile isPart).length := by
  have hl : i < s.length := by
    rcases Nat.lt_or_ge i s.length with x | x
    · exact x
    · rw [atB_ge x] at h; cases h
  refine ⟨hl, ?_⟩
  rw [drop_at hl, wordN, if_pos h]
theorem wordN_no {s : List UInt8} {i : Nat} (h : isLet (atB s i) = false) : wordN (s.drop i) = 0 := by
  rcases Nat.lt_or_ge i s.length with x | x
  · rw [drop_at x, wordN, if_neg (by rw [h]; decide)]
  · rw [List.drop_eq_nil_of_le x]; rfl
theorem isPart_1 {c : UInt8} (h : isLet c = true) : isPart c = true := by unfold isPart; rw [h]; rfl
theorem isPart_2 {c : UInt8} (h : isDg c = true) : isPart c = true := by unfold isPart; rw [h, Bool.or_true]; rfl
theorem isPart_3 {c : UInt8} (h : (c == 95) = true) : isPart c = true := by unfold isPart; rw [h, Bool.or_true]
theorem isPart_0 {c : UInt8} (h1 : isLet c = false) (h2 : isDg c = false) (h3 : (c == 95) = false) : isPart c = false := by unfold isPart; rw [h1, h2, h3]; rfl
theorem byte_eq (c d : UInt8) : (((c.toNat : Nat) : Int) == ((d.toNat : Nat) : Int)) = (c == d) := by
  by_cases h : c = d
  · subst h; simp
  · rw [beq_eq_false_iff_ne.2 h, beq_eq_false_iff_ne]
    intro e; exact h (UInt8.toNat.inj (by omega))
theorem t_part (w : World) (c : UInt8) (v : Bool) (hv : isPart c = v) : Calls Tryz.prog 148 #[.int .u8 (c.toNat : Nat)] w (RetV w (.bool v)) := by
 cases hl : isLet c
 ·cases hd : isDg c
  ·cases hu : (c == 95)
   ·obtain rfl : v = false := by rw [← hv]; exact isPart_0 hl hd hu
    have h95 : (((c.toNat : Nat) : Int) == 95) = false := (byte_eq c 95).trans hu
    clear hv hu
    go_enter Tryz.func148, Tryz.ntmps148
    go_wp2_with fail
    (with_reducible refine (t_letter _ c false hl).mono ?_); rintro e w1 ⟨rfl, q1⟩
    have bw1 := (brefl w).trans (q1.mono (brefl w).size)
    have lw1 := q1.size
    clear q1
    go_wp2_with fail
    (with_reducible refine (t_digit _ c false hd).mono ?_); rintro e w2 ⟨rfl, q2⟩
    have bw2 := bw1.trans (q2.mono bw1.size)
    have lw2 := q2.size
    clear q2 bw1
    go_wp2_with fail
    go_ret
    exact retB rfl bw2
   ·obtain rfl : v = true := by rw [← hv]; exact isPart_3 hu
    have h95 : (((c.toNat : Nat) : Int) == 95) = true := (byte_eq c 95).trans hu
    clear hv hu
    go_enter Tryz.func148, Tryz.ntmps148
    go_wp2_with fail
    (with_reducible refine (t_letter _ c false hl).mono ?_); rintro e w1 ⟨rfl, q1⟩
    have bw1 := (brefl w).trans (q1.mono (brefl w).size)
    have lw1 := q1.size
    clear q1
    go_wp2_with fail
    (with_reducible refine (t_digit _ c false hd).mono ?_); rintro e w2 ⟨rfl, q2⟩
    have bw2 := bw1.trans (q2.mono bw1.size)
    have lw2 := q2.size
    clear q2 bw1
    go_wp2_with fail
    go_ret
    exact retB rfl bw2
  ·obtain rfl : v = true := by rw [← hv]; exact isPart_2 hd
   clear hv
   go_enter Tryz.func148, Tryz.ntmps148
   go_wp2_with fail
   (with_reducible refine (t_letter _ c false hl).mono ?_); rintro e w1 ⟨rfl, q1⟩
   have bw1 := (brefl w).trans (q1.mono (brefl w).size)
   have lw1 := q1.size
   clear q1
   go_wp2_with fail
   (with_reducible refine (t_digit _ c true hd).mono ?_); rintro e w2 ⟨rfl, q2⟩
   have bw2 := bw1.trans (q2.mono bw1.size)
   have lw2 := q2.size
   clear q2 bw1
   go_wp2_with fail
   go_ret
   exact retB rfl bw2
 ·obtain rfl : v = true := by rw [← hv]; exact isPart_1 hl
  clear hv
  go_enter Tryz.func148, Tryz.ntmps148
  go_wp2_with fail
  (with_reducible refine (t_letter _ c true hl).mono ?_); rintro e w1 ⟨rfl, q1⟩
  have bw1 := (brefl w).trans (q1.mono (brefl w).size)
  have lw1 := q1.size
  clear q1
  go_wp2_with fail
  go_ret
  exact retB rfl bw1
theorem t_digits (w : World) (s : List UInt8) (i : Nat) (hi : i ≤ s.length) (hs : s.length < 4611686018427387904) (v : Nat) (hv : digN (s.drop i) = v) : Calls Tryz.prog 153 #[strV s, .int .i64 (i : Nat)] w (RetV w (.int .i64 (v : Nat))) := by
 have HV : Hid (0 + ((s.drop (i + 0)).takeWhile isDg).length = v) := Lib.hid (by rw [← hv, Nat.zero_add]; rfl)
 have hszs := size_v s
 clear hv
 go_enter Tryz.func153, Tryz.ntmps153
 go_wp2_with fail
 go_loopw [5] (fun iv wr => ∃ (j : Nat), iv = .int .i64 (j : Nat) ∧ i + j ≤ s.length ∧ Hid (j + ((s.drop (i + j)).takeWhile isDg).length = v) ∧ Kp w wr ∧ Below w.heap.size w wr ∧ w.heap.size ≤ wr.heap.size) (fun iv _ => s.length - (intOf iv).toNat)
 case atStart => exact ⟨0, rfl, hi, HV, Kp.refl _, (brefl w), Nat.le_refl _⟩
 case round =>
  obtain ⟨j, rfl, hj, hw, hkp, hbw, hlw⟩ := hrel
  have hw1 : IntKind.i64.wrap ((i : Int) + (j : Int)) = (i : Int) + (j : Int) := IntWalk.i64_in _ ⟨by omega, by omega⟩
  rcases Nat.lt_or_ge (i + j) s.length with hl | hl
  ·obtain ⟨d, hd⟩ : ∃ d, atB s (i + j) = d := ⟨_, rfl⟩
   have hi0 : (0 : Int) ≤ (i : Int) + (j : Int) := by omega
   have hi1 : (i : Int) + (j : Int) < (s.length : Int) := by omega
   have et : ((i : Int) + (j : Int)).toNat = i + j := by omega
   have hget : ∀ h, (⟨s.toArray⟩ : ByteArray)[i + j]'h = d := fun h => by rw [← hd]; exact (atB_lt hl).symm
   cases hg : isDg d
   ·have hjv : j = v := by rw [← hw.out, tw_stop (p := isDg) (by rw [hd]; exact hg)]; rfl
    subst hjv
    clear hd
    go_wp2_with fail
    (with_reducible refine (t_digit _ d false hg).mono ?_); rintro e w1 ⟨rfl, q1⟩
    replace hkp := hkp.below q1
    have bw1 := hbw.trans (q1.mono hbw.size)
    have lw1 := q1.size
    clear q1
    go_wp2_with fail
    go_ret
    exact ⟨rfl, bw1⟩
   ·obtain ⟨_, hst⟩ := tw_step (p := isDg) (s := s) (i := i + j) rfl (by rw [hd]; exact hg)
    have hw2 : Hid (j + 1 + ((s.drop (i + (j + 1))).takeWhile isDg).length = v) := Lib.hid (by rw [← hw.out, hst, Nat.add_assoc i j 1]; omega)
    clear hst hd
    go_wp2_with fail
    (with_reducible refine (t_digit _ d true hg).mono ?_); rintro e w1 ⟨rfl, q1⟩
    replace hkp := hkp.below q1
    have bw1 := hbw.trans (q1.mono hbw.size)
    have lw1 := q1.size
    clear q1
    go_wp2_with fail
    go_roundw
    case rel => exact ⟨j + 1, by go_num, by omega, hw2, hkp, bw1, by omega⟩
    case measure => simp [intOf]; omega
  ·have hjv : j = v := by rw [← hw.out, tw_stop (p := isDg) (by rw [atB_ge hl]; rfl)]; rfl
   subst hjv
   have hi1 : ((i : Int) + (j : Int) < (s.length : Int)) = False := by simp; omega
   go_wp2_with fail
   go_ret
   exact ⟨rfl, hbw⟩
theorem t_word (w : World) (s : List UInt8) (hs : s.length < 4611686018427387904) (v : Nat) (hv : wordN s = v) : Calls Tryz.prog 102 #[strV s] w (RetV w (.int .i64 (v : Nat))) := by
 have hszs := size_v s
 rcases Nat.eq_zero_or_pos s.length with h0 | h0
 ·obtain rfl : s = [] := List.eq_nil_of_length_eq_zero h0
  obtain rfl : 0 = v := hv
  clear hs
  go_enter Tryz.func102, Tryz.ntmps102
  go_wp2_with fail
  go_ret
  exact ⟨rfl, (brefl w)⟩
 ·obtain ⟨y, ys, hyy⟩ : ∃ y ys, s = y :: ys := List.exists_cons_of_length_pos h0
  have hBe : ((⟨s.toArray⟩ : ByteArray) == ⟨#[]⟩) = false := by rw [hyy]; rfl
  have hBl : (s == []) = false := by rw [hyy]; rfl
  have hBn : (s = []) = False := by rw [hyy]; simp
  clear hyy
  obtain ⟨d, hd⟩ : ∃ d, atB s 0 = d := ⟨_, rfl⟩
  have hget : ∀ h, (⟨s.toArray⟩ : ByteArray)[0]'h = d := fun h => by rw [← hd]; exact (atB_lt h0).symm
  have hi1 : (0 : Int) < (s.length : Int) := by omega
  cases hl : isLet d
  ·obtain rfl : 0 = v := by rw [← hv]; exact (wordN_no (s := s) (i := 0) (by rw [hd]; exact hl)).symm
   clear hd hv
   go_enter Tryz.func102, Tryz.ntmps102
   go_wp2_with fail
   (with_reducible refine (t_letter _ d false hl).mono ?_); rintro e w1 ⟨rfl, q1⟩
   have bw1 := (brefl w).trans (q1.mono (brefl w).size)
   have lw1 := q1.size
   clear q1
   go_wp2_with fail
   go_ret
   exact ⟨rfl, bw1⟩
  ·have HV : Hid (1 + ((s.drop 1).takeWhile isPart).length = v) := Lib.hid (by rw [← hv]; exact ((wordN_at (s := s) (i := 0) (by rw [hd]; exact hl)).2).symm)
   clear hv hd
   go_enter Tryz.func102, Tryz.ntmps102
   go_wp2_with fail
   (with_reducible refine (t_letter _ d true hl).mono ?_); rintro e w1 ⟨rfl, q1⟩
   have bw1 := (brefl w).trans (q1.mono (brefl w).size)
   have lw1 := q1.size
   clear q1
   go_wp2_with fail
   clear hget hl hi1 hBe hBl hBn
   go_loopw [3] (fun iv wr => ∃ (j : Nat), iv = .int .i64 (j : Nat) ∧ j ≤ s.length ∧ Hid (j + ((s.drop j).takeWhile isPart).length = v) ∧ Kp w1 wr ∧ Below w.heap.size w wr ∧ w1.heap.size ≤ wr.heap.size) (fun iv _ => s.length - (intOf iv).toNat)
   case atStart => exact ⟨1, rfl, h0, HV, Kp.refl _, bw1, Nat.le_refl _⟩
   case round =>
    obtain ⟨j, rfl, hj, hw, hkp, hbw, hlw⟩ := hrel
    rcases Nat.lt_or_ge j s.length with hl | hl
    ·obtain ⟨d, hd⟩ : ∃ d, atB s j = d := ⟨_, rfl⟩
     have hget : ∀ h, (⟨s.toArray⟩ : ByteArray)[j]'h = d := fun h => by rw [← hd]; exact (atB_lt hl).symm
     have hlt : j < s.length := hl
     cases hg : isPart d
     ·have hjv : j = v := by rw [← hw.out, tw_stop (p := isPart) (by rw [hd]; exact hg)]; rfl
      subst hjv
      clear hd
      go_wp2_with fail
      (with_reducible refine (t_part _ d false hg).mono ?_); rintro e w2 ⟨rfl, q2⟩
      replace hkp := hkp.below q2
      have bw2 := hbw.trans (q2.mono hbw.size)
      have lw2 := q2.size
      clear q2
      go_wp2_with fail
      go_ret
      exact ⟨rfl, bw2⟩
     ·obtain ⟨_, hst⟩ := tw_step (p := isPart) (s := s) (i := j) rfl (by rw [hd]; exact hg)
      have hw2 : Hid (j + 1 + ((s.drop (j + 1)).takeWhile isPart).length = v) := Lib.hid (by rw [← hw.out, hst]; omega)
      clear hst hd
      go_wp2_with fail
      (with_reducible refine (t_part _ d true hg).mono ?_); rintro e w2 ⟨rfl, q2⟩
      replace hkp := hkp.below q2
      have bw2 := hbw.trans (q2.mono hbw.size)
      have lw2 := q2.size
      clear q2
      go_wp2_with fail
      go_roundw
      case rel => exact ⟨j + 1, by go_num, by omega, hw2, hkp, bw2, by omega⟩
      case measure => simp [intOf]; omega
    ·have hjv : j = v := by rw [← hw.out, tw_stop (p := isPart) (by rw [atB_ge hl]; rfl)]; rfl
     subst hjv
     have hi1 : ((j : Int) < (s.length : Int)) = False := by simp; omega
     go_wp2_with fail
     go_ret
     exact ⟨rfl, hbw⟩
theorem t_digits_x (w : World) (s : List UInt8) (x : Int) (i : Nat) (hx : x = ((i : Nat) : Int)) (hi : i ≤ s.length) (hs : s.length < 4611686018427387904) (y : Int) (hy : ((digN (s.drop i) : Nat) : Int) = y) : Calls Tryz.prog 153 #[strV s, .int .i64 x] w (RetV w (.int .i64 y)) := by
  subst hx hy
  exact t_digits w s i hi hs _ rfl
end Go.Proofs.YtoiijifnfdgfpaaGreatDoor

/- Walks: the reference's division. -/
namespace Go.Proofs.YtoiijifnfdgfpaaGreatDoor
open Go Go.RowKit Bn
attribute [local go_sem ↓] Go.wp_at_zero Go.wp_at_succ

theorem val_rep (m : Nat) : val (List.replicate m 0) = 0 := by
  induction m with
  | zero => rfl
  | succ m ih => rw [List.replicate_succ, val, ih]
theorem wds_rep (m : Nat) : Wds (List.replicate m 0) := by intro x hx; rw [List.eq_of_mem_replicate hx]; omega
theorem words_cells (l : List Nat) : (cellsOf l).toList = words l := by simp [cellsOf, words]
theorem OwS.made (w : World) {B : Nat} (L : List Nat) (n : Nat) (hB : B ≤ w.heap.size) (hn : n ≤ 4398046511104) (hL : L.length = n) (hW : Wds L) : OwS (w.alloc (.cells (cellsOf L) 82)) B w.heap.size n n L := by
  refine ⟨?_, hW⟩
  rw [← words_cells]
  exact World.ownsRow_lit w (cellsOf L) n hB (by unfold maxLen; omega) (by simp [cellsOf, hL])
theorem OwS.far {w : World} {B g n cap : Nat} {l : List Nat} (h : OwS w B g n cap l) {p : Addr} (hp : g ≠ p.block) (u : Value) : OwS (w.setCell p u) B g n cap l := by
  refine ⟨⟨h.1.1, ?_⟩, h.2⟩
  rcases h.1.2 with ⟨e, _⟩ | ⟨g', c', cur, e, hB, hgg, r⟩
  · cases e
  · have e' := e
    injection e with e1 _ e2; injection e1 with e1; injection e1 with e1; subst e1
    exact .inr ⟨g, c', cur, e', hB, (Below.heap_setCell w p u g hp).trans hgg, r⟩
theorem or_word {u p s : Nat} (hu : u + p < 4294967296) (ho : u ||| p = u + p) (hp : 2 ^ s = p) : bits .or .u32 (u : Int) ((2 : Int) ^ s % 4294967296) = ((u + p : Nat) : Int) := by
  have e : (2 : Int) ^ s % 4294967296 = (p : Int) := by
    have h : (2 : Int) ^ s = ((2 ^ s : Nat) : Int) := by simp
    rw [h, hp]; omega
  rw [e, ← ho]
  exact u32_or_nat u p (by omega) (by omega)
theorem q_in {q m : Nat} : (2 * q + 1) * 2 ^ m = q * 2 ^ (m + 1) + 2 ^ m := by rw [Nat.pow_succ]; grind
theorem q_out {q m : Nat} : (2 * q) * 2 ^ m = q * 2 ^ (m + 1) := by rw [Nat.pow_succ]; grind
def DivO (a b : Nat) (Lq Lr : List Nat) (k : Nat) : Prop := val Lq = a / 2 ^ k / b * 2 ^ k ∧ val Lr = a / 2 ^ k % b
theorem r_divide_c (w : World) (A n c l) (wa : Wd w A n c l) (hn : n ≤ 1000000000000) (A' n' c' l') (wb : Wd w A' n' c' l') (hn' : n' ≤ 1000000000000) (h0 : val l' ≠ 0) :
  Calls Tryz.prog 237 #[.slice A n c, .slice A' n' c'] w (RetD w (val l) (val l')) := by
 have HL := Lib.hid wa.2.1
 have HL' := Lib.hid wb.2.1
 obtain ⟨va, hva⟩ : ∃ v, val l = v := ⟨_, rfl⟩
 obtain ⟨vb, hvb⟩ : ∃ v, val l' = v := ⟨_, rfl⟩
 have HA := Lib.hid hva
 have HB := Lib.hid hvb
 rw [hvb] at h0
 have H0 := Lib.hid (Nat.pos_of_ne_zero h0)
 rw [hva, hvb]
 obtain ⟨gb, ob, rfl, hgb, _⟩ := wb.at2 (by
  rcases Nat.eq_zero_or_pos n' with e | e
  ·exfalso
   have h9 := HL'.out
   rw [e] at h9
   rw [List.eq_nil_of_length_eq_zero h9.symm] at hvb
   exact h0 hvb.symm
  ·exact e)
 clear h0 hva hvb
 go_enter Tryz.func237, Tryz.ntmps237
 go_wp2_with (first
  | (at_make; refine wpList_make_words _ rfl _ _ rfl _ _ _ _ n rfl rfl (by omega) (by omega) (by omega) ?_)
  | (at_make; refine wpList_make_words _ rfl _ _ rfl _ _ _ _ (n' + 1) rfl rfl (by omega) (by omega) (by omega) ?_))
 (with_reducible refine (r_bits_c _ A n c l ?_ (by omega)).mono ?_); (exact wa.keep (((Kp.refl w).alloc _).alloc _)); rintro e w1 ⟨N, rfl, hN1, hN2, rfl⟩
 rw [HA.out] at hN1
 go_wp2_with fail
 have oq0 : OwS ((w.alloc (.cells (cellsOf (List.replicate n 0)) 82)).alloc (.cells (cellsOf (List.replicate (n' + 1) 0)) 82)) w.heap.size w.heap.size n n (List.replicate n 0) :=
  (OwS.made w (List.replicate n 0) n (Nat.le_refl _) (by omega) (by simp) (wds_rep n)).belw ((brefl _).alloc (Nat.le_refl _) _)
 have or0 : OwS ((w.alloc (.cells (cellsOf (List.replicate n 0)) 82)).alloc (.cells (cellsOf (List.replicate (n' + 1) 0)) 82)) w.heap.size (w.heap.size + 1) (n' + 1) (n' + 1) (List.replicate (n' + 1) 0) := by
  have h := OwS.made (w.alloc (.cells (cellsOf (List.replicate n 0)) 82)) (B := w.heap.size) (List.replicate (n' + 1) 0) (n' + 1) (by simp) (by omega) (by simp) (wds_rep _)
  simpa using h
 have HO := Lib.hid (And.intro oq0 or0)
 clear oq0 or0
 go_loopw [8] (fun iv wr => ∃ (k : Nat) (z : Int) (Lq Lr : List Nat), k ≤ N ∧ iv = .int .i64 z ∧ z + 1 = (k : Int) ∧ DivO va vb Lq Lr k ∧ OwS wr w.heap.size w.heap.size n n Lq ∧ OwS wr w.heap.size (w.heap.size + 1) (n' + 1) (n' + 1) Lr ∧ Below w.heap.size w wr) (fun iv _ => (intOf iv + 1).toNat)
 case atStart =>
  refine ⟨N, (N : Int) - 1, _, _, Nat.le_refl _, by go_num, by omega, ⟨?_, ?_⟩, HO.out.1, HO.out.2, ((brefl w).alloc (Nat.le_refl _) _).alloc (by simp) _⟩
  ·rw [val_rep, Nat.div_eq_of_lt hN1]; simp
  ·rw [val_rep, Nat.div_eq_of_lt hN1]; simp
 case round =>
  obtain ⟨k, z, Lq, Lr, hk, rfl, hz, hI, hq, hr, hbel⟩ := hrel
  have HK := Lib.hid ((Kp.refl w).below hbel)
  have HI := Lib.hid hI
  have HQ := Lib.hid hq
  have HR := Lib.hid hr
  have HBL := Lib.hid hbel
  clear hI hq hr hbel HO
  by_cases hk0 : k = 0
  ·subst hk0
   have ez : z = -1 := by omega
   subst ez
   go_wp2_with fail
   (with_reducible refine (r_trim_c _ (some ⟨w.heap.size, 0, none⟩) n n Lq ?_ (by omega)).mono ?_); (exact HQ.out.toWd); rintro e w1 ⟨A1, n1, c1, rfl, h1, hb1⟩
   have HR2 := Lib.hid (HR.out.belw hb1)
   have HBL2 := Lib.hid (HBL.out.trans (hb1.mono HBL.out.size))
   clear hb1
   go_wp2_with fail
   (with_reducible refine (r_trim_c _ (some ⟨w.heap.size + 1, 0, none⟩) (n' + 1) (n' + 1) Lr ?_ (by omega)).mono ?_); (exact HR2.out.toWd); rintro e w2 ⟨A2, n2, c2, rfl, h2, hb2⟩
   have h1' := h1.keep ((Kp.refl w1).below hb2)
   have HBL3 := HBL2.out.trans (hb2.mono HBL2.out.size)
   rw [HI.out.1] at h1'
   rw [HI.out.2] at h2
   simp only [Nat.pow_zero, Nat.div_one, Nat.mul_one] at h1' h2
   have HF := Lib.hid (And.intro h1' (And.intro h2 HBL3))
   clear h1 h1' h2 HBL3 hb2
   go_wp2
   refine bodyPost_ret (v := .tuple #[.slice A1 n1 c1, .slice A2 n2 c2]) (by simp [results, Tryz.results237, go_sem]) rfl ?_
   exact ⟨A1, n1, c1, A2, n2, c2, rfl, HF.out.1, HF.out.2.1, HF.out.2.2⟩
  ·obtain ⟨m, rfl⟩ : ∃ m, k = m + 1 := ⟨k - 1, by omega⟩
   have ez : z = (m : Int) := by omega
   subst ez
   have hm32 : m / 32 < n := by omega
   obtain ⟨ga, oa, rfl, hgl, hca⟩ := (wa.keep HK.out).at2 (by omega)
   have hcx := hca (m / 32) hm32
   obtain ⟨x, hx⟩ : ∃ x, wd l (m / 32) = x := ⟨_, rfl⟩
   have hx1 : x < 4294967296 := by rw [← hx]; exact wa.lt _
   rw [hx] at hcx
   have HX := Lib.hid hx
   obtain ⟨br, hbr⟩ : ∃ d, bits .and .u32 ((x : Int) / 2 ^ (m % 32)) 1 = d := ⟨_, rfl⟩
   obtain ⟨b, hb⟩ : ∃ b, va / 2 ^ m % 2 = b := ⟨_, rfl⟩
   have hbb : br = (b : Int) := by
    rw [← hbr, ← hb, ← HA.out, ← wd_bit wa.1 m, hx]
    have e : (x : Int) / 2 ^ (m % 32) = ((x / 2 ^ (m % 32) : Nat) : Int) := by simp
    rw [e, and_one _ (Nat.lt_of_le_of_lt (Nat.div_le_self _ _) hx1)]
   have HB1 := Lib.hid hb
   have hb1 : b ≤ 1 := by omega
   clear hca hx hz hk0 hb
   go_wp2_with fail
   try rw [hbb]
   clear hbr hbb
   go_loopw [9, 36] (fun cv kv w2 => ∃ (k cr : Nat) (L2 : List Nat), k ≤ n' + 1 ∧ kv = .int .i64 (k : Nat) ∧ cv = .int .u32 (cr : Nat) ∧ cr ≤ 1 ∧ DblI Lr L2 b k cr ∧ OwS w2 w.heap.size w.heap.size n n Lq ∧ OwS w2 w.heap.size (w.heap.size + 1) (n' + 1) (n' + 1) L2 ∧ Below w.heap.size w w2) (fun _ kv _ => n' + 1 - (intOf kv).toNat)
   case atStart => exact ⟨0, b, Lr, Nat.zero_le _, rfl, rfl, hb1, DblI.start _ _, HQ.out, HR.out, HBL.out⟩
   case round =>
    obtain ⟨k, cr, L2, hk2, rfl, rfl, hcr, hI2, hq2, hr2, hbel2⟩ := hrel
    have HI2 := Lib.hid hI2
    have HQ2 := Lib.hid hq2
    have HR2 := Lib.hid hr2
    have HBL2 := Lib.hid hbel2
    clear hI2 hq2 hr2 hbel2
    by_cases hkk : k < n' + 1
    ·obtain ⟨y, hy⟩ : ∃ y, wd Lr k = y := ⟨_, rfl⟩
     have hy1 : y < 4294967296 := by rw [← hy]; exact wd_lt HR.out.2 _
     have hck := HR2.out.cell k hkk
     rw [HI2.out.1 k (Nat.le_refl _), hy] at hck
     have hfk := HR2.out.frozen k
     have HY := Lib.hid hy
     obtain ⟨s, hs⟩ : ∃ s, bits .or .u32 ((y : Int) * 2 % 4294967296) (cr : Int) = s := ⟨_, rfl⟩
     have he : s = ((y * 2 % 4294967296 + cr : Nat) : Int) := by
      rw [← hs, ← (dbl_word hcr hy1).1]
      exact u32_or_nat (y * 2 % 4294967296) cr (Nat.mod_lt _ (by decide)) (by omega)
     have HE := Lib.hid he
     have HS := Lib.hid (dbl_word hcr hy1).2
     clear hy he
     go_wp2
     go_region
     clear hs
     go_wp2
     go_roundw
     case rel =>
      have hst := HI2.out.step HY.out hy1 (by rw [← HR2.out.len]; exact hkk)
      refine ⟨k + 1, y / 2147483648, L2.set k (y * 2 % 4294967296 + cr), by omega, by go_num, by go_num, HS.out.2, hst, ?_, ?_, ?_⟩
      ·exact OwS.far (w := wr) HQ2.out (p := ⟨w.heap.size + 1, k, none⟩) (by simp) _
      ·exact OwS.set (w := wr) HR2.out k HS.out.1 HE.out
      ·exact (Below.setCell HBL2.out (p := ⟨w.heap.size + 1, k, none⟩) (by simp) _).drew
     case measure => simp [intOf]; omega
    ·have hkn : k = n' + 1 := by omega
     subst hkn
     have hv2 : val L2 = 2 * val Lr + b := by
      have h3 := HR2.out.len
      have h4 := HR.out.len
      refine DblI.fin HI2.out (by omega) (by omega) ?_
      refine dbl_room (v := vb) ?_ ?_ hb1
      ·rw [HI.out.2]; exact Nat.mod_lt _ H0.out
      ·rw [← HB.out, HL'.out]; exact val_lt wb.1
     rw [HI.out.2, ← HB1.out] at hv2
     obtain ⟨r2, hr2⟩ : ∃ r, val L2 = r := ⟨_, rfl⟩
     rw [hr2] at hv2
     have HV := Lib.hid hv2
     have HR2v := Lib.hid hr2
     clear hv2 hr2
     by_cases hge : vb ≤ r2
     ·have hc0 : 0 ≤ cmpN r2 vb := by unfold cmpN; (repeat' split) <;> omega
      obtain ⟨cv, hcv⟩ : ∃ cv, cmpN r2 vb = cv := ⟨_, rfl⟩
      rw [hcv] at hc0
      have HC := Lib.hid hcv
      clear hcv
      go_wp2_with fail
      (with_reducible refine (r_compare_c _ (some ⟨w.heap.size + 1, 0, none⟩) (n' + 1) (n' + 1) L2 ?_ ?_ (some ⟨gb, ob, none⟩) n' c' l' ?_ ?_).mono ?_); (exact HR2.out.toWd); (omega); (exact wb.keep ((Kp.refl w).below HBL2.out)); (omega); rintro e w1 ⟨rfl, hbl1⟩
      rw [HR2v.out, HB.out, HC.out]
      have HQ3 := Lib.hid (HQ2.out.belw hbl1)
      have HR3 := Lib.hid (HR2.out.belw hbl1)
      have HBL3 := Lib.hid (HBL2.out.trans (hbl1.mono HBL2.out.size))
      clear hbl1 HQ2 HR2 HBL2
      go_wp2_with fail
      (with_reducible refine (r_take_o _ w.heap.size (w.heap.size + 1) (n' + 1) (n' + 1) L2 ?_ ?_ (some ⟨gb, ob, none⟩) n' c' l' ?_ ?_ ?_ ?_).mono ?_)
      ·exact HR3.out
      ·omega
      ·exact wb.keep ((Kp.refl w).below HBL3.out)
      ·intro ad e; injection e with e; subst e; show gb ≠ _; omega
      ·omega
      ·rw [HR2v.out, HB.out]; exact hge
      rintro e w2 ⟨L3, rfl, hr3, hv3, hon⟩
      rw [HR2v.out, HB.out] at hv3
      have hq3 := hon.own HQ3.out (by omega)
      have HBL4 := Lib.hid (HBL3.out.trans (hon.1.mono (by omega)))
      have HR4 := Lib.hid hr3
      have HV3 := Lib.hid hv3
      obtain ⟨u, hu⟩ : ∃ u, wd Lq (m / 32) = u := ⟨_, rfl⟩
      have hcq := hq3.cell (m / 32) hm32
      have hfq := hq3.frozen (m / 32)
      rw [hu] at hcq
      have hob := or_bit HQ.out.2 m (by rw [← HQ.out.len]; exact hm32) HI.out.1
      rw [hu] at hob
      obtain ⟨p, hp⟩ : ∃ p, 2 ^ (m % 32) = p := ⟨_, rfl⟩
      rw [hp] at hob
      have HQ4 := Lib.hid hq3
      have HOB := Lib.hid hob
      have HU := Lib.hid hu
      have HP := Lib.hid hp
      clear hr3 hv3 hon hq3 HQ3 HR3 HBL3 hu hob hp
      go_wp2
      go_region
      go_wp2
      go_roundw
      case rel =>
       have hbi := bit_in (a := va) (k := m) HV.out hge H0.out
       have he := or_word HOB.out.2.1 HOB.out.1 HP.out
       refine ⟨m, (m : Int) - 1, Lq.set (m / 32) (u + p), L3, by omega, by go_num, by omega, ⟨?_, ?_⟩, ?_, ?_, ?_⟩
       ·rw [HOB.out.2.2, HI.out.1, hbi.1, q_in]
       ·rw [HV3.out, hbi.2]
       ·exact OwS.set (w := w2) HQ4.out (m / 32) HOB.out.2.1 he
       ·exact OwS.far (w := w2) HR4.out (p := ⟨w.heap.size, m / 32, none⟩) (by simp) _
       ·exact (Below.setCell HBL4.out (p := ⟨w.heap.size, m / 32, none⟩) (by simp) _).drew
      case measure => simp [intOf] <;> omega
     ·have hc0 : cmpN r2 vb < 0 := by unfold cmpN; (repeat' split) <;> omega
      obtain ⟨cv, hcv⟩ : ∃ cv, cmpN r2 vb = cv := ⟨_, rfl⟩
      rw [hcv] at hc0
      have HC := Lib.hid hcv
      clear hcv
      go_wp2_with fail
      (with_reducible refine (r_compare_c _ (some ⟨w.heap.size + 1, 0, none⟩) (n' + 1) (n' + 1) L2 ?_ ?_ (some ⟨gb, ob, none⟩) n' c' l' ?_ ?_).mono ?_); (exact HR2.out.toWd); (omega); (exact wb.keep ((Kp.refl w).below HBL2.out)); (omega); rintro e w1 ⟨rfl, hbl1⟩
      rw [HR2v.out, HB.out, HC.out]
      have HQ3 := Lib.hid (HQ2.out.belw hbl1)
      have HR3 := Lib.hid (HR2.out.belw hbl1)
      have HBL3 := Lib.hid (HBL2.out.trans (hbl1.mono HBL2.out.size))
      clear hbl1 HQ2 HR2 HBL2
      go_wp2
      go_roundw
      case rel =>
       have hbi := bit_out (a := va) (k := m) HV.out (by omega)
       refine ⟨m, (m : Int) - 1, Lq, L2, by omega, by go_num, by omega, ⟨?_, ?_⟩, HQ3.out, HR3.out, HBL3.out⟩
       ·rw [HI.out.1, hbi.1, q_out]
       ·rw [HR2v.out, hbi.2]
      case measure => simp [intOf] <;> omega
end Go.Proofs.YtoiijifnfdgfpaaGreatDoor

/- Walks: the reference's Div, of a dividend that is not negative or that the divisor divides. -/
namespace Go.Proofs.YtoiijifnfdgfpaaGreatDoor
open Go Go.RowKit Bn
attribute [local go_sem ↓] Go.wp_at_zero Go.wp_at_succ
theorem r_neg_e (w : World) (b : Bool) (A : Option Addr) (n c : Nat) (l : List Nat) (s : Bool) (wa : Wd w A n c l) (hn : n ≤ 1099511627776) (hs : WD.s ⟨b, l⟩ = s) :
    Calls Tryz.prog 234 #[.agg #[.bool b, .slice A n c]] w (RetV w (.bool s)) := by subst hs; exact r_neg_c w b A n c l wa hn
theorem r_sign_x (w : World) (b : Bool) (A : Option Addr) (n c : Nat) (l : List Nat) (s : Int) (wa : Wd w A n c l) (hn : n ≤ 1099511627000) (hs : (WD.z ⟨b, l⟩).sign = s) :
    Calls Tryz.prog 200 #[.agg #[.bool b, .slice A n c]] w (RetV w (.int .i64 s)) := by subst hs; exact r_sign_c w b A n c l wa hn
theorem r_divide_e (w : World) (A n c l) (wa : Wd w A n c l) (hn : n ≤ 1000000000000) (A' n' c' l') (wb : Wd w A' n' c' l') (hn' : n' ≤ 1000000000000) (x y : Nat) (hx : val l = x) (hy : val l' = y) (h0 : y ≠ 0) :
    Calls Tryz.prog 237 #[.slice A n c, .slice A' n' c'] w (RetD w x y) := by subst hx hy; exact r_divide_c w A n c l wa hn A' n' c' l' wb hn' h0
def RetDivR (w : World) (q r : Int) (e : Ending) (w' : World) : Prop := ∃ A1 n1 c1 A2 n2 c2, e = .returned (.tuple #[.agg #[.bool (wh q).neg, .slice A1 n1 c1], .agg #[.bool (wh r).neg, .slice A2 n2 c2], .int .i64 0]) ∧ Wd w' A1 n1 c1 (wh q).mag ∧ Wd w' A2 n2 c2 (wh r).mag ∧ Below w.heap.size w w'
theorem r_div_C (w : World) (b : Bool) (A n c l) (wa : Wd w A n c l) (hn : n ≤ 1000000000000) (b' : Bool) (A' n' c' l') (wb : Wd w A' n' c' l') (hn' : n' ≤ 1000000000000) (h0 : WD.z ⟨b', l'⟩ ≠ 0) (hr0 : WD.z ⟨b, l⟩ % WD.z ⟨b', l'⟩ = 0) :
    Calls Tryz.prog 204 #[.agg #[.bool b, .slice A n c], .agg #[.bool b', .slice A' n' c']] w (RetDivR w (WD.z ⟨b, l⟩ / WD.z ⟨b', l'⟩) (WD.z ⟨b, l⟩ % WD.z ⟨b', l'⟩)) := by
  have HL := Lib.hid wa.2.1
  have HL' := Lib.hid wb.2.1
  obtain ⟨s0, hs0'⟩ : ∃ s, (WD.z ⟨b', l'⟩).sign = s := ⟨_, rfl⟩
  have es0 : ((s0 : Int) == 0) = false := by simp; rintro rfl; exact h0 (Int.sign_eq_zero_iff_zero.1 hs0')
  have HSG := Lib.hid hs0'
  clear hs0'
  have hd0 : val (WD.m ⟨b', l'⟩) ∣ val (WD.m ⟨b, l⟩) := by
    rw [← z_nat ⟨b, l⟩, ← z_nat ⟨b', l'⟩]
    exact Int.natAbs_dvd_natAbs.2 (Int.dvd_of_emod_eq_zero hr0)
  rw [WD.z_eq] at h0 ⊢
  rw [WD.z_eq ⟨b', l'⟩]
  have hv2 : val (WD.m ⟨b', l'⟩) ≠ 0 := by intro e; rw [e] at h0; exact h0 (by cases (WD.s ⟨b', l'⟩) <;> rfl)
  obtain ⟨sa, hsa⟩ : ∃ s, WD.s ⟨b, l⟩ = s := ⟨_, rfl⟩
  obtain ⟨sb, hsb⟩ : ∃ s, WD.s ⟨b', l'⟩ = s := ⟨_, rfl⟩
  rw [hsa, hsb]
  obtain ⟨x, hx⟩ : ∃ x, val (WD.m ⟨b, l⟩) = x := ⟨_, rfl⟩
  obtain ⟨y, hy⟩ : ∃ y, val (WD.m ⟨b', l'⟩) = y := ⟨_, rfl⟩
  rw [hx, hy]
  rw [hx, hy] at hd0
  have HS := Lib.hid (And.intro hsa hsb)
  have HX := Lib.hid (And.intro hx hy)
  have HY := Lib.hid (show y ≠ 0 from hy ▸ hv2)
  have HR0 := Lib.hid (Nat.mod_eq_zero_of_dvd hd0)
  clear hsa hsb hx hy hv2 h0 hr0 hd0
  go_enter Tryz.func204, Tryz.ntmps204
  go_wp2_with fail
  have b0 : Below w.heap.size w ((((w.alloc (.cells #[.bool b, .slice A n c] 123)).alloc (.cells #[.bool b', .slice A' n' c'] 123)).alloc (.cells #[.bool false, .slice none 0 0] 123)).alloc (.cells #[.bool false, .slice none 0 0] 123)) := (((((Below.refl _ _).alloc (Nat.le_refl _) _).alloc (by simp) _).alloc (by simp; omega) _).alloc (by simp; omega) _)
  generalize hW0 : ((((w.alloc (.cells #[.bool b, .slice A n c] 123)).alloc (.cells #[.bool b', .slice A' n' c'] 123)).alloc (.cells #[.bool false, .slice none 0 0] 123)).alloc (.cells #[.bool false, .slice none 0 0] 123)) = W0 at b0 ⊢
  have c00 : W0.cell? ⟨w.heap.size, 0, none⟩ = some (.bool b) := by subst hW0; simp [go_sem]
  have f00 : W0.frozen? ⟨w.heap.size, 0, none⟩ = false := by subst hW0; simp [go_sem]
  have c01 : W0.cell? ⟨w.heap.size, 1, none⟩ = some (.slice A n c) := by subst hW0; simp [go_sem]
  have f01 : W0.frozen? ⟨w.heap.size, 1, none⟩ = false := by subst hW0; simp [go_sem]
  have c10 : W0.cell? ⟨w.heap.size + 1, 0, none⟩ = some (.bool b') := by subst hW0; simp [go_sem]
  have f10 : W0.frozen? ⟨w.heap.size + 1, 0, none⟩ = false := by subst hW0; simp [go_sem]
  have c11 : W0.cell? ⟨w.heap.size + 1, 1, none⟩ = some (.slice A' n' c') := by subst hW0; simp [go_sem]
  have f11 : W0.frozen? ⟨w.heap.size + 1, 1, none⟩ = false := by subst hW0; simp [go_sem]
  have c20 : W0.cell? ⟨w.heap.size + 1 + 1, 0, none⟩ = some (.bool false) := by subst hW0; simp [go_sem]
  have f20 : W0.frozen? ⟨w.heap.size + 1 + 1, 0, none⟩ = false := by subst hW0; simp [go_sem]
  have c21 : W0.cell? ⟨w.heap.size + 1 + 1, 1, none⟩ = some (.slice none 0 0) := by subst hW0; simp [go_sem]
  have f21 : W0.frozen? ⟨w.heap.size + 1 + 1, 1, none⟩ = false := by subst hW0; simp [go_sem]
  have c30 : W0.cell? ⟨w.heap.size + 1 + 1 + 1, 0, none⟩ = some (.bool false) := by subst hW0; simp [go_sem]
  have f30 : W0.frozen? ⟨w.heap.size + 1 + 1 + 1, 0, none⟩ = false := by subst hW0; simp [go_sem]
  have c31 : W0.cell? ⟨w.heap.size + 1 + 1 + 1, 1, none⟩ = some (.slice none 0 0) := by subst hW0; simp [go_sem]
  have f31 : W0.frozen? ⟨w.heap.size + 1 + 1 + 1, 1, none⟩ = false := by subst hW0; simp [go_sem]
  have x0 : Box W0 w.heap.size 123 := by subst hW0; exact (((boxAt _ _ _ (by simp)).alloc _).alloc _).alloc _
  have x1 : Box W0 (w.heap.size + 1) 123 := by subst hW0; exact ((boxAt _ _ _ (by simp)).alloc _).alloc _
  have x2 : Box W0 (w.heap.size + 1 + 1) 123 := by subst hW0; exact (boxAt _ _ _ (by simp)).alloc _
  have x3 : Box W0 (w.heap.size + 1 + 1 + 1) 123 := by subst hW0; exact boxAt _ _ _ (by simp)
  have hm0 : Made (w.heap.size + 1 + 1) (w.heap.size + 1 + 1 + 1 + 1) 2 W0 := by subst hW0; exact made2 (by simp) rfl
  have hs0 : w.heap.size + 1 + 1 + 1 + 1 ≤ W0.heap.size := by subst hW0; simp
  clear hW0
  have wa := wa.belw b0
  have wb := wb.belw b0
  have r0 : Below W0.heap.size W0 W0 := brefl _
  go_wp2_with (first
    | (go_at_call 200; (with_reducible refine (r_sign_x _ b' A' n' c' l' s0 ?_ ?_ ?_).mono ?_); (exact wb); (omega); (exact HSG.out); rintro e w1 ⟨rfl, hb1⟩; have r1 := bnext r0 hb1; replace wa := wa.belw hb1; replace wb := wb.belw hb1; (try clear sc sf sr sz); obtain ⟨⟨sc, sf⟩, sr, sz⟩ := Seen.of (by omega) hs0 hm0 r1))
  (try clear sc sf sr sz)
  have hRB : w.heap.size + 1 + 1 ≤ w.heap.size + 1 + 1 + 1 + 1 := by omega
  go_region_held3 (fun w' => Sees (w.heap.size + 1 + 1) W0 w') (first | exact Sees.of (Nat.le_trans hRB hs0) (by assumption) | exact Sees.of (Nat.le_trans hRB hs0) (below_drewN (by assumption) _))
    (first
      | (go_at_call 233; (with_reducible refine (r_mag_c _ b A n c l ?_ ?_).mono ?_); (exact wa); (omega); rintro e w2 ⟨A2, n2, c2, rfl, h2, hb2⟩; replace hb2 := bnext (below_drewN (brefl _) 1) hb2; have r2 := bnext r1 hb2; replace wa := wa.belw hb2; replace wb := wb.belw hb2)
      | (go_at_call 233; (with_reducible refine (r_mag_c _ b' A' n' c' l' ?_ ?_).mono ?_); (exact wb); (omega); rintro e w3 ⟨A3, n3, c3, rfl, h3, hb3⟩; have r3 := bnext r2 hb3; replace wa := wa.belw hb3; replace wb := wb.belw hb3; replace h2 := h2.belw hb3)
      | (go_at_call 237; (with_reducible refine (r_divide_e _ A2 n2 c2 (WD.m ⟨b, l⟩) ?_ ?_ A3 n3 c3 (WD.m ⟨b', l'⟩) ?_ ?_ x y ?_ ?_ ?_).mono ?_); (exact h2); (exact h2.m_len (by rw [← HL.out]; exact hn)); (exact h3); (exact h3.m_len (by rw [← HL'.out]; exact hn')); (exact HX.out.1); (exact HX.out.2); (exact HY.out); rintro e w4 ⟨A4, n4, c4, A5, n5, c5, rfl, h4, h5, hb4⟩; have r4 := bnext r3 hb4; replace wa := wa.belw hb4; replace wb := wb.belw hb4; replace h2 := h2.belw hb4; replace h3 := h3.belw hb4))
  obtain ⟨⟨sc, sf⟩, sr, sz⟩ := Seen.of (by omega) hs0 hm0 r4
  clear hRB
  have hn4 : n4 ≤ 1000000000000 := by
    rw [h4.2.1]; exact dlen (Nat.lt_of_le_of_lt (Nat.div_le_self _ _) (HX.out.1 ▸ h2.vlt (Nat.le_refl _))) (h2.m_len (by rw [← HL.out]; exact hn))
  have hn5 : n5 = 0 := by rw [h5.2.1, HR0.out, digs_zero]; rfl
  subst hn5
  cases sa
  · go_wp2_with (first
      | (go_at_call 234; (with_reducible refine (r_neg_e _ b A n c l false ?_ ?_ ?_).mono ?_); (exact wa); (omega); (exact HS.out.1); rintro e w5 ⟨rfl, hb5⟩; have r5 := bnext r4 hb5; replace wa := wa.belw hb5; replace wb := wb.belw hb5; replace h2 := h2.belw hb5; replace h3 := h3.belw hb5; replace h4 := h4.belw hb5; replace h5 := h5.belw hb5; (try clear sc sf sr sz); obtain ⟨⟨sc, sf⟩, sr, sz⟩ := Seen.of (by omega) hs0 hm0 r5))
    have HZ := Lib.hid (div_plain (sa := false) (sb := sb) (x := x) HY.out (.inr HR0.out))
    (try clear sc sf sr sz)
    have hRB : w.heap.size + 1 + 1 ≤ w.heap.size + 1 + 1 + 1 + 1 := by omega
    go_region_held3 (fun w' => Sees (w.heap.size + 1 + 1) W0 w') (first | exact Sees.of (Nat.le_trans hRB hs0) (by assumption) | exact Sees.of (Nat.le_trans hRB hs0) (below_drewN (by assumption) _) | exact (Sees.set (Sees.of (Nat.le_trans hRB hs0) (by assumption)) (by simp)) | exact (Sees.set (Sees.set (Sees.of (Nat.le_trans hRB hs0) (by assumption)) (by simp)) (by simp)) | exact (Sees.set (Sees.set (Sees.set (Sees.of (Nat.le_trans hRB hs0) (by assumption)) (by simp)) (by simp)) (by simp)) | exact (Sees.set (Sees.set (Sees.set (Sees.set (Sees.of (Nat.le_trans hRB hs0) (by assumption)) (by simp)) (by simp)) (by simp)) (by simp)))
      (first
        | (go_at_call 234; (with_reducible refine (r_neg_e _ b A n c l false ?_ ?_ ?_).mono ?_); (exact wa); (omega); (exact HS.out.1); rintro e w6 ⟨rfl, hb6⟩; replace hb6 := bnext (below_drewN (brefl _) 1) hb6; have r6 := bnext r5 hb6; replace wa := wa.belw hb6; replace wb := wb.belw hb6; replace h2 := h2.belw hb6; replace h3 := h3.belw hb6; replace h4 := h4.belw hb6; replace h5 := h5.belw hb6)
        | (go_at_call 234; (with_reducible refine (r_neg_e _ b' A' n' c' l' sb ?_ ?_ ?_).mono ?_); (exact wb); (omega); (exact HS.out.2); rintro e w7 ⟨rfl, hb7⟩; have r7 := bnext r6 hb7; replace wa := wa.belw hb7; replace wb := wb.belw hb7; replace h2 := h2.belw hb7; replace h3 := h3.belw hb7; replace h4 := h4.belw hb7; replace h5 := h5.belw hb7)
        | (go_at_call 201; (with_reducible refine (r_form_e _ sb A4 n4 c4 (digs (x / y)) (sgn false x / sgn sb y) ?_ ?_ ?_).mono ?_); (exact h4); (omega); (rw [HZ.out.1, val_digs]; cases sb <;> rfl); rintro e w8 ⟨A8, n8, c8, rfl, h8, hb8⟩; have r8 := bnext r7 hb8; replace wa := wa.belw hb8; replace wb := wb.belw hb8; replace h2 := h2.belw hb8; replace h3 := h3.belw hb8; replace h4 := h4.belw hb8; replace h5 := h5.belw hb8)
        | (go_at_call 201; (with_reducible refine (r_form_e _ false A5 0 c5 (digs (x % y)) (sgn false x % sgn sb y) ?_ ?_ ?_).mono ?_); (exact h5); (omega); (rw [HZ.out.2, val_digs]; rfl); rintro e w9 ⟨A9, n9, c9, rfl, h9, hb9⟩; have r9 := bnext r8 hb9; replace wa := wa.belw hb9; replace wb := wb.belw hb9; replace h2 := h2.belw hb9; replace h3 := h3.belw hb9; replace h4 := h4.belw hb9; replace h5 := h5.belw hb9; replace h8 := h8.belw hb9; obtain ⟨⟨sc, sf⟩, sr, sz⟩ := Seen.of (by omega) hs0 hm0 r9))
    clear hRB
    go_wp2_with fail
    refine bodyPost_ret (v := .tuple #[.agg #[.bool _, .slice A8 n8 c8], .agg #[.bool _, .slice A9 n9 c9], .int .i64 0]) (by simp [results, Tryz.results204, go_sem, sr]; first | rfl | exact ⟨rfl, rfl⟩) rfl ?_
    have y2 := x2.below r9
    have y3 := x3.below r9
    refine ⟨A8, n8, c8, A9, n9, c9, rfl, ?_, ?_, ?_⟩
    · exact h8.keep (kp4 y2 y3 (by decide) (by decide) _ _ _ _ _ _ _ _)
    · exact h9.keep (kp4 y2 y3 (by decide) (by decide) _ _ _ _ _ _ _ _)
    · exact ((((b0.trans (r9.mono b0.size)).setCell (by dsimp only; omega) _).setCell (by dsimp only; omega) _).setCell (by dsimp only; omega) _).setCell (by dsimp only; omega) _
  · go_wp2_with (first
      | (go_at_call 234; (with_reducible refine (r_neg_e _ b A n c l true ?_ ?_ ?_).mono ?_); (exact wa); (omega); (exact HS.out.1); rintro e w5 ⟨rfl, hb5⟩; have r5 := bnext r4 hb5; replace wa := wa.belw hb5; replace wb := wb.belw hb5; replace h2 := h2.belw hb5; replace h3 := h3.belw hb5; replace h4 := h4.belw hb5; replace h5 := h5.belw hb5; (try clear sc sf sr sz); obtain ⟨⟨sc, sf⟩, sr, sz⟩ := Seen.of (by omega) hs0 hm0 r5))
    have HZ := Lib.hid (div_plain (sa := true) (sb := sb) (x := x) HY.out (.inr HR0.out))
    (try clear sc sf sr sz)
    have hRB : w.heap.size + 1 + 1 ≤ w.heap.size + 1 + 1 + 1 + 1 := by omega
    go_region_held3 (fun w' => Sees (w.heap.size + 1 + 1) W0 w') (first | exact Sees.of (Nat.le_trans hRB hs0) (by assumption) | exact Sees.of (Nat.le_trans hRB hs0) (below_drewN (by assumption) _) | exact (Sees.set (Sees.of (Nat.le_trans hRB hs0) (by assumption)) (by simp)) | exact (Sees.set (Sees.set (Sees.of (Nat.le_trans hRB hs0) (by assumption)) (by simp)) (by simp)) | exact (Sees.set (Sees.set (Sees.set (Sees.of (Nat.le_trans hRB hs0) (by assumption)) (by simp)) (by simp)) (by simp)) | exact (Sees.set (Sees.set (Sees.set (Sees.set (Sees.of (Nat.le_trans hRB hs0) (by assumption)) (by simp)) (by simp)) (by simp)) (by simp)))
      (first
        | (go_at_call 234; (with_reducible refine (r_neg_e _ b A n c l true ?_ ?_ ?_).mono ?_); (exact wa); (omega); (exact HS.out.1); rintro e w6 ⟨rfl, hb6⟩; replace hb6 := bnext (below_drewN (brefl _) 1) hb6; have r6 := bnext r5 hb6; replace wa := wa.belw hb6; replace wb := wb.belw hb6; replace h2 := h2.belw hb6; replace h3 := h3.belw hb6; replace h4 := h4.belw hb6; replace h5 := h5.belw hb6)
        | (go_at_call 234; (with_reducible refine (r_neg_e _ b' A' n' c' l' sb ?_ ?_ ?_).mono ?_); (exact wb); (omega); (exact HS.out.2); rintro e w7 ⟨rfl, hb7⟩; have r7 := bnext r6 hb7; replace wa := wa.belw hb7; replace wb := wb.belw hb7; replace h2 := h2.belw hb7; replace h3 := h3.belw hb7; replace h4 := h4.belw hb7; replace h5 := h5.belw hb7)
        | (go_at_call 201; (with_reducible refine (r_form_e _ (!sb) A4 n4 c4 (digs (x / y)) (sgn true x / sgn sb y) ?_ ?_ ?_).mono ?_); (exact h4); (omega); (rw [HZ.out.1, val_digs]; cases sb <;> rfl); rintro e w8 ⟨A8, n8, c8, rfl, h8, hb8⟩; have r8 := bnext r7 hb8; replace wa := wa.belw hb8; replace wb := wb.belw hb8; replace h2 := h2.belw hb8; replace h3 := h3.belw hb8; replace h4 := h4.belw hb8; replace h5 := h5.belw hb8)
        | (go_at_call 201; (with_reducible refine (r_form_e _ false A5 0 c5 (digs (x % y)) (sgn true x % sgn sb y) ?_ ?_ ?_).mono ?_); (exact h5); (omega); (rw [HZ.out.2, val_digs]; rfl); rintro e w9 ⟨A9, n9, c9, rfl, h9, hb9⟩; have r9 := bnext r8 hb9; replace wa := wa.belw hb9; replace wb := wb.belw hb9; replace h2 := h2.belw hb9; replace h3 := h3.belw hb9; replace h4 := h4.belw hb9; replace h5 := h5.belw hb9; replace h8 := h8.belw hb9; obtain ⟨⟨sc, sf⟩, sr, sz⟩ := Seen.of (by omega) hs0 hm0 r9))
    clear hRB
    go_wp2_with fail
    refine bodyPost_ret (v := .tuple #[.agg #[.bool _, .slice A8 n8 c8], .agg #[.bool _, .slice A9 n9 c9], .int .i64 0]) (by simp [results, Tryz.results204, go_sem, sr]; first | rfl | exact ⟨rfl, rfl⟩) rfl ?_
    have y2 := x2.below r9
    have y3 := x3.below r9
    refine ⟨A8, n8, c8, A9, n9, c9, rfl, ?_, ?_, ?_⟩
    · exact h8.keep (kp4 y2 y3 (by decide) (by decide) _ _ _ _ _ _ _ _)
    · exact h9.keep (kp4 y2 y3 (by decide) (by decide) _ _ _ _ _ _ _ _)
    · exact ((((b0.trans (r9.mono b0.size)).setCell (by dsimp only; omega) _).setCell (by dsimp only; omega) _).setCell (by dsimp only; omega) _).setCell (by dsimp only; omega) _
theorem r01_div (w : World) (b A n c z k) (h : IZ w b A n c z k) (b' A' n' c' z' k') (h' : IZ w b' A' n' c' z' k') (hk : k + k' ≤ 1000000000) (h0 : z' ≠ 0) (hr : z % z' = 0) : Calls Tryz.prog 204 #[.agg #[.bool b, .slice A n c], .agg #[.bool b', .slice A' n' c']] w (RetDv w (.int .i64 0) (z / z') (z % z') (k + k')) := by
  have hz := h.mono (Nat.le_add_right k k') |>.lt
  have hz' := h'.mono (Nat.le_add_left k' k) |>.lt
  obtain ⟨l, h1, rfl, h3⟩ := h
  obtain ⟨l', h1', rfl, h3'⟩ := h'
  refine (r_div_C w b A n c l h1 (by omega) b' A' n' c' l' h1' (by omega) h0 hr).mono fun _ _ r => ?_
  obtain ⟨A1, n1, c1, A2, n2, c2, rfl, r1, r2, r3⟩ := r
  refine ⟨_, A1, n1, c1, _, A2, n2, c2, rfl, IV.mk_ r1 rfl ?_, IV.mk_ r2 rfl ?_, r3⟩
  · exact Nat.lt_of_le_of_lt (Int.natAbs_ediv_le_natAbs _ _) hz
  · have e1 := Int.emod_nonneg (WD.z ⟨b, l⟩) h0
    have e2 := Int.emod_lt (WD.z ⟨b, l⟩) h0
    omega
end Go.Proofs.YtoiijifnfdgfpaaGreatDoor

/- Walks: the reference: fractions in lowest terms. -/
namespace Go.Proofs.YtoiijifnfdgfpaaGreatDoor
open Go Go.RowKit Bn
attribute [local go_sem ↓] Go.wp_at_zero Go.wp_at_succ
theorem r01_sign_e (w : World) (b A n c z k) (h : IZ w b A n c z k) (s : Int) (hs : z.sign = s) (hk : k ≤ 1000000000) : Calls Tryz.prog 200 #[.agg #[.bool b, .slice A n c]] w (RetV w (.int .i64 s)) := by
  subst hs; exact r01_sign w b A n c z k h hk
theorem form_any {z d : Int} {q : Rat} (hz : z ≠ 0) (hd : 0 < d) (hq : Rat.divInt z d = q) :
    (rd q).num = (wh (z / ((Nat.gcd z.natAbs d.natAbs : Nat) : Int))).mag ∧ (rd q).den = (wh (d / ((Nat.gcd z.natAbs d.natAbs : Nat) : Int))).mag ∧ (rd q).neg = (wh (z / ((Nat.gcd z.natAbs d.natAbs : Nat) : Int))).neg := by
  rw [← hq, rd_divInt hz hd, wh_div _ hd]
  have hg : 0 < Nat.gcd z.natAbs d.natAbs := Nat.gcd_pos_of_pos_right _ (by omega)
  have hdv : ((Nat.gcd z.natAbs d.natAbs : Nat) : Int) ∣ z := Int.ofNat_dvd_left.2 (Nat.gcd_dvd_left _ _)
  generalize Nat.gcd z.natAbs d.natAbs = g at *
  obtain ⟨m, rfl⟩ := hdv
  have e : (g : Int) * m / (g : Int) = m := Int.mul_ediv_cancel_left _ (by omega)
  have e2 : ((g : Int) * m).natAbs / g = m.natAbs := by rw [Int.natAbs_mul, Int.natAbs_natCast]; exact Nat.mul_div_cancel_left _ hg
  rw [e, e2]
  refine ⟨rfl, rfl, ?_⟩
  unfold wh
  simp only [decide_eq_decide]
  constructor
  · intro h; rcases (show m < 0 ∨ 0 ≤ m by omega) with h1 | h1; exact h1; exact absurd (Int.mul_nonneg (Int.natCast_nonneg g) h1) (by omega)
  · intro h; exact Int.mul_neg_of_pos_of_neg (by omega) h
theorem g_form_0 (w : World) (b A n c z k) (h : IZ w b A n c z k) (b' A' n' c' z' k') (h' : IZ w b' A' n' c' z' k') (K : Nat) (hz : z = 0) (hk : k + k' ≤ 300000000) :
  Calls Tryz.prog 159 #[.agg #[.bool b, .slice A n c], .agg #[.bool b', .slice A' n' c']] w (RetF w 0 K) := by
 have HZ := Lib.hid (show z.sign = 0 by rw [hz]; rfl)
 clear hz
 go_enter Tryz.func159, Tryz.ntmps159
 go_wp2_with fail
 (with_reducible refine (r01_sign_e _ b A n c (z) (k) ?_ (0) ?_ ?_).mono ?_); (exact (h.belw ((((Below.refl _ _).alloc (Nat.le_refl _) _).alloc (by simp) _).alloc (by simp <;> omega) _))); (exact HZ.out); (omega); rintro e w1 ⟨rfl, hb1⟩
 have q1 := hb1.q3
 replace h := h.belw q1
 replace h' := h'.belw q1
 have x1a : Blk w1 w.heap.size 123 #[.bool b, .slice A n c] := (((blkAt _ _ _ (by simp)).alloc _).alloc _).below hb1 (by simp <;> omega)
 have x1b := ((blkAt _ _ _ (g := w.heap.size + 1) (by simp)).alloc _).below hb1 (by simp <;> omega)
 have x1c := (blkAt _ _ _ (g := w.heap.size + 1 + 1) (by simp)).below hb1 (by simp)
 have bw1 := (brefl w).trans (q1.mono (brefl w).size)
 have lw1 := hb1.l3
 clear q1
 have cx1c := x1c.c3
 have fx1c := x1c.f3
 have lx1c := lts2 x1c.lt
 go_wp2_with fail
 refine bodyPost_ret (v := .agg #[.bool false, .slice none 0 0, .slice none 0 0]) (by simp [results, Tryz.results159, go_sem, *] <;> trivial) rfl ?_
 exact ⟨false, none, 0, 0, none, 0, 0, rfl, QV.zero _ _, (((bw1.sc (w.heap.size + 1 + 1) 0 (by omega) (.bool false)).sc (w.heap.size + 1 + 1) 1 (by omega) (.slice none 0 0)).sc (w.heap.size + 1 + 1) 2 (by omega) (.slice none 0 0))⟩
theorem g_form_p (w : World)  (b A n c z k) (h : IZ w b A n c z k) (b' A' n' c' z' k') (h' : IZ w b' A' n' c' z' k') (q : Rat) (K : Nat) (hz : z ≠ 0) (hd : z'.sign = 1) (hq : Rat.divInt z z' = q) (hs : Sz q K) (hk : k + k' ≤ 300000000) :
  Calls Tryz.prog 159 #[.agg #[.bool b, .slice A n c], .agg #[.bool b', .slice A' n' c']] w (RetF w q K) := by
 obtain ⟨s, hs1⟩ : ∃ s, z.sign = s := ⟨_, rfl⟩
 have e0 : ((s : Int) == 0) = false := by simp; rintro rfl; exact hz (Int.sign_eq_zero_iff_zero.1 hs1)
 have HZ := Lib.hid hs1
 have HD := Lib.hid hd
 have HN := Lib.hid (show z ≠ 0 by omega)
 have HP := Lib.hid (show 0 < z' by exact sign_pos hd)
 have HG := Lib.hid (show ((Nat.gcd (z).natAbs (z').natAbs : Nat) : Int) ≠ 0 from gcd_ne HP.out)
 have HM1 := Lib.hid (show z % ((Nat.gcd (z).natAbs (z').natAbs : Nat) : Int) = 0 from Int.emod_eq_zero_of_dvd (Int.ofNat_dvd_left.2 (Nat.gcd_dvd_left _ _)))
 have HM2 := Lib.hid (show z' % ((Nat.gcd (z).natAbs (z').natAbs : Nat) : Int) = 0 from Int.emod_eq_zero_of_dvd (Int.ofNat_dvd_left.2 (Nat.gcd_dvd_right _ _)))
 have HQ := Lib.hid (show Rat.divInt z z' = q by exact hq)
 have HS := Lib.hid hs
 clear hz hd hq hs hs1
 go_enter Tryz.func159, Tryz.ntmps159
 go_wp2_with fail
 (with_reducible refine (r01_sign_e _ b A n c (z) (k) ?_ (s) ?_ ?_).mono ?_); (exact (h.belw ((((Below.refl _ _).alloc (Nat.le_refl _) _).alloc (by simp) _).alloc (by simp <;> omega) _))); (exact HZ.out); (omega); rintro e w1 ⟨rfl, hb1⟩
 have q1 := hb1.q3
 replace h := h.belw q1
 replace h' := h'.belw q1
 have x1a : Blk w1 w.heap.size 123 #[.bool b, .slice A n c] := (((blkAt _ _ _ (by simp)).alloc _).alloc _).below hb1 (by simp <;> omega)
 have x1b := ((blkAt _ _ _ (g := w.heap.size + 1) (by simp)).alloc _).below hb1 (by simp <;> omega)
 have x1c := (blkAt _ _ _ (g := w.heap.size + 1 + 1) (by simp)).below hb1 (by simp)
 have bw1 := (brefl w).trans (q1.mono (brefl w).size)
 have lw1 := hb1.l3
 clear q1
 obtain ⟨cx1ba, cx1bb⟩ := x1b.c2
 obtain ⟨lx1ba, lx1bb, lx1bc, lx1bd⟩ := lts1 x1b.lt
 go_wp2_with fail
 (with_reducible refine (r01_sign_e _ b' A' n' c' (z') (k') ?_ (1) ?_ ?_).mono ?_); (exact h'); (exact HD.out); (omega); rintro e w2 ⟨rfl, q2⟩
 clear cx1ba cx1bb lx1ba lx1bb lx1bc lx1bd
 replace h := h.belw q2
 replace h' := h'.belw q2
 replace x1a := x1a.b q2
 replace x1b := x1b.b q2
 replace x1c := x1c.b q2
 have bw2 := bw1.trans (q2.mono bw1.size)
 have lw2 := q2.size
 clear q2 bw1
 obtain ⟨cx1aa, cx1ab⟩ := x1a.c2
 obtain ⟨lx1aa, lx1ab, lx1ac, lx1ad⟩ := lts0 x1a.lt
 obtain ⟨cx1ba, cx1bb⟩ := x1b.c2
 obtain ⟨lx1ba, lx1bb, lx1bc, lx1bd⟩ := lts1 x1b.lt
 go_wp2_with fail
 (with_reducible refine (r01_gcd _ b A n c (z) (k) ?_ b' A' n' c' (z') (k') ?_ ?_).mono ?_); (exact h); (exact h'); (omega); rintro e w3 ⟨b3, A3, n3, c3, rfl, h3, q3⟩
 clear cx1aa cx1ab lx1aa lx1ab lx1ac lx1ad cx1ba cx1bb lx1ba lx1bb lx1bc lx1bd
 replace h := h.belw q3
 replace h' := h'.belw q3
 replace x1a := x1a.b q3
 replace x1b := x1b.b q3
 replace x1c := x1c.b q3
 have bw3 := bw2.trans (q3.mono bw2.size)
 have lw3 := q3.size
 clear q3 bw2
 obtain ⟨cx1aa, cx1ab⟩ := x1a.c2
 obtain ⟨lx1aa, lx1ab, lx1ac, lx1ad⟩ := lts0 x1a.lt
 go_wp2_with fail
 (with_reducible refine (r01_div _ b A n c (z) (k) ?_ b3 A3 n3 c3 ((Nat.gcd ((z)).natAbs ((z')).natAbs : Nat)) ((k) + (k')) ?_  ?_ ?_ ?_).mono ?_); (exact (h.belw ((Below.refl _ _).alloc (Nat.le_refl _) _))); (exact (h3.belw ((Below.refl _ _).alloc (Nat.le_refl _) _)).iz); (omega); (exact HG.out); (exact HM1.out); rintro e w4 ⟨b4, A4, n4, c4, b'4, A'4, n'4, c'4, rfl, h4, h'4, hb4⟩
 clear cx1aa cx1ab lx1aa lx1ab lx1ac lx1ad
 have q4 := hb4.q1
 replace h := h.belw q4
 replace h' := h'.belw q4
 replace h3 := h3.belw q4
 replace x1a := x1a.b q4
 replace x1b := x1b.b q4
 replace x1c := x1c.b q4
 have x4a : Blk w4 w3.heap.size 123 #[.bool b3, .slice A3 n3 c3] := (blkAt _ _ _ (by simp)).below hb4 (by simp)
 have bw4 := bw3.trans (q4.mono bw3.size)
 have lw4 := hb4.l1
 clear q4 bw3
 obtain ⟨cx1ba, cx1bb⟩ := x1b.c2
 obtain ⟨lx1ba, lx1bb, lx1bc, lx1bd⟩ := lts1 x1b.lt
 have cx4a := x4a.c2
 have lx4a := lts0 x4a.lt
 go_wp2_with fail
 (with_reducible refine (r01_div _ b' A' n' c' (z') (k') ?_ b3 A3 n3 c3 ((Nat.gcd ((z)).natAbs ((z')).natAbs : Nat)) ((k) + (k')) ?_  ?_ ?_ ?_).mono ?_); (exact (h'.belw (((Below.refl _ _).alloc (Nat.le_refl _) _).alloc (by simp) _))); (exact (h3.belw (((Below.refl _ _).alloc (Nat.le_refl _) _).alloc (by simp) _)).iz); (omega); (exact HG.out); (exact HM2.out); rintro e w5 ⟨b5, A5, n5, c5, b'5, A'5, n'5, c'5, rfl, h5, h'5, hb5⟩
 clear cx1ba cx1bb lx1ba lx1bb lx1bc lx1bd cx4a lx4a
 have q5 := hb5.q2
 replace h := h.belw q5
 replace h' := h'.belw q5
 replace h3 := h3.belw q5
 replace h4 := h4.belw q5
 replace h'4 := h'4.belw q5
 replace x1a := x1a.b q5
 replace x1b := x1b.b q5
 replace x1c := x1c.b q5
 replace x4a := x4a.b q5
 have x5a : Blk w5 w4.heap.size 123 #[.bool b4, .slice A4 n4 c4] := ((blkAt _ _ _ (by simp)).alloc _).below hb5 (by simp <;> omega)
 have x5b := (blkAt _ _ _ (g := w4.heap.size + 1) (by simp)).below hb5 (by simp)
 have bw5 := bw4.trans (q5.mono bw4.size)
 have lw5 := hb5.l2
 clear q5 bw4
 have cx1c := x1c.c3
 have fx1c := x1c.f3
 have lx1c := lts2 x1c.lt
 have cx5a := x5a.c2
 have lx5a := lts0 x5a.lt
 go_wp2_with fail
 refine bodyPost_ret (v := .agg #[.bool b4, .slice A4 n4 c4, .slice A5 n5 c5]) (by simp [results, Tryz.results159, go_sem, *] <;> trivial) rfl ?_
 obtain ⟨e1, e2, e3⟩ := form_any HN.out HP.out HQ.out
 exact ⟨_, _, _, _, _, _, _, rfl, QV.mk_ (by rw [e1]; exact h4.2.1.keep ((((((Kp.refl w5).sb (w.heap.size + 1 + 1) 0 x1c.box (by decide) (.bool b4)).sb (w.heap.size + 1 + 1) 1 (x1c.box.set ⟨w.heap.size + 1 + 1, 0, none⟩ (.bool b4)) (by decide) (.slice A4 n4 c4)).sb (w.heap.size + 1 + 1) 2 ((x1c.box.set ⟨w.heap.size + 1 + 1, 0, none⟩ (.bool b4)).set ⟨w.heap.size + 1 + 1, 1, none⟩ (.slice A4 n4 c4)) (by decide) (.slice A5 n5 c5)).alloc (.cells #[.bool b5, .slice A5 n5 c5] 123)).alloc (.cells #[.bool b'5, .slice A'5 n'5 c'5] 123))) (by rw [e2]; exact h5.2.1.keep ((((((Kp.refl w5).sb (w.heap.size + 1 + 1) 0 x1c.box (by decide) (.bool b4)).sb (w.heap.size + 1 + 1) 1 (x1c.box.set ⟨w.heap.size + 1 + 1, 0, none⟩ (.bool b4)) (by decide) (.slice A4 n4 c4)).sb (w.heap.size + 1 + 1) 2 ((x1c.box.set ⟨w.heap.size + 1 + 1, 0, none⟩ (.bool b4)).set ⟨w.heap.size + 1 + 1, 1, none⟩ (.slice A4 n4 c4)) (by decide) (.slice A5 n5 c5)).alloc (.cells #[.bool b5, .slice A5 n5 c5] 123)).alloc (.cells #[.bool b'5, .slice A'5 n'5 c'5] 123))) (by rw [e3]; exact h4.1.symm) HS.out, (((((bw5.sc (w.heap.size + 1 + 1) 0 (by omega) (.bool b4)).sc (w.heap.size + 1 + 1) 1 (by omega) (.slice A4 n4 c4)).sc (w.heap.size + 1 + 1) 2 (by omega) (.slice A5 n5 c5)).alloc (by first | omega | (simp <;> omega)) (.cells #[.bool b5, .slice A5 n5 c5] 123)).alloc (by first | omega | (simp <;> omega)) (.cells #[.bool b'5, .slice A'5 n'5 c'5] 123))⟩
theorem g_form_n (w : World)  (b A n c z k) (h : IZ w b A n c z k) (b' A' n' c' z' k') (h' : IZ w b' A' n' c' z' k') (q : Rat) (K : Nat) (hz : z ≠ 0) (hd : z'.sign = -1) (hq : Rat.divInt z z' = q) (hs : Sz q K) (hk : k + k' ≤ 300000000) :
  Calls Tryz.prog 159 #[.agg #[.bool b, .slice A n c], .agg #[.bool b', .slice A' n' c']] w (RetF w q K) := by
 obtain ⟨s, hs1⟩ : ∃ s, z.sign = s := ⟨_, rfl⟩
 have e0 : ((s : Int) == 0) = false := by simp; rintro rfl; exact hz (Int.sign_eq_zero_iff_zero.1 hs1)
 have HZ := Lib.hid hs1
 have HD := Lib.hid hd
 have HN := Lib.hid (show (-z) ≠ 0 by omega)
 have HP := Lib.hid (show 0 < (-z') by exact sign_neg_ hd)
 have HG := Lib.hid (show ((Nat.gcd ((-z)).natAbs ((-z')).natAbs : Nat) : Int) ≠ 0 from gcd_ne HP.out)
 have HM1 := Lib.hid (show (-z) % ((Nat.gcd ((-z)).natAbs ((-z')).natAbs : Nat) : Int) = 0 from Int.emod_eq_zero_of_dvd (Int.ofNat_dvd_left.2 (Nat.gcd_dvd_left _ _)))
 have HM2 := Lib.hid (show (-z') % ((Nat.gcd ((-z)).natAbs ((-z')).natAbs : Nat) : Int) = 0 from Int.emod_eq_zero_of_dvd (Int.ofNat_dvd_left.2 (Nat.gcd_dvd_right _ _)))
 have HQ := Lib.hid (show Rat.divInt (-z) (-z') = q by rw [divInt_neg_neg _ _ (sign_ne hd)]; exact hq)
 have HS := Lib.hid hs
 clear hz hd hq hs hs1
 go_enter Tryz.func159, Tryz.ntmps159
 go_wp2_with fail
 (with_reducible refine (r01_sign_e _ b A n c (z) (k) ?_ (s) ?_ ?_).mono ?_); (exact (h.belw ((((Below.refl _ _).alloc (Nat.le_refl _) _).alloc (by simp) _).alloc (by simp <;> omega) _))); (exact HZ.out); (omega); rintro e w1 ⟨rfl, hb1⟩
 have q1 := hb1.q3
 replace h := h.belw q1
 replace h' := h'.belw q1
 have x1a : Blk w1 w.heap.size 123 #[.bool b, .slice A n c] := (((blkAt _ _ _ (by simp)).alloc _).alloc _).below hb1 (by simp <;> omega)
 have x1b := ((blkAt _ _ _ (g := w.heap.size + 1) (by simp)).alloc _).below hb1 (by simp <;> omega)
 have x1c := (blkAt _ _ _ (g := w.heap.size + 1 + 1) (by simp)).below hb1 (by simp)
 have bw1 := (brefl w).trans (q1.mono (brefl w).size)
 have lw1 := hb1.l3
 clear q1
 obtain ⟨cx1ba, cx1bb⟩ := x1b.c2
 have lx1b := lts1 x1b.lt
 go_wp2_with fail
 (with_reducible refine (r01_sign_e _ b' A' n' c' (z') (k') ?_ (-1) ?_ ?_).mono ?_); (exact h'); (exact HD.out); (omega); rintro e w2 ⟨rfl, q2⟩
 clear cx1ba cx1bb lx1b
 replace h := h.belw q2
 replace h' := h'.belw q2
 replace x1a := x1a.b q2
 replace x1b := x1b.b q2
 replace x1c := x1c.b q2
 have bw2 := bw1.trans (q2.mono bw1.size)
 have lw2 := q2.size
 clear q2 bw1
 go_wp2_with fail
 have cx1a := x1a.c2
 obtain ⟨cx1ba, cx1bb⟩ := x1b.c2
 go_cut [2] (fun s2 wx => s2 = .pointer (some ⟨w.heap.size, 0, none⟩) ∧ ∃ b8 A8 n8 c8 b9 A9 n9 c9, Blk wx w.heap.size 123 #[.bool b8, .slice A8 n8 c8] ∧ Blk wx (w.heap.size + 1) 123 #[.bool b9, .slice A9 n9 c9] ∧ Blk wx (w.heap.size + 1 + 1) 72 #[.bool false, .slice none 0 0, .slice none 0 0] ∧ IV wx b8 A8 n8 c8 (-z) k ∧ IV wx b9 A9 n9 c9 (-z') k' ∧ Below w.heap.size w wx ∧ w2.heap.size ≤ wx.heap.size)
 case first =>
  go_region_with (first
   | (go_at_call 202; (with_reducible refine (r01_neg _ b A n c (z) (k) ?_ ?_).mono ?_); (exact h); (omega); rintro e w3 ⟨b4, A4, n4, c4, rfl, h4, hb4⟩; replace hb4 := bnext (below_drewN (brefl _) 1) hb4; replace h' := h'.belw hb4; have bw4 := bw2.trans (hb4.mono bw2.size); have lw4 := hb4.size; replace x1a := x1a.b hb4; replace x1b := x1b.b hb4; replace x1c := x1c.b hb4; obtain ⟨dx1_1_0, dx1_1_1⟩ := x1b.c2)
   | (go_at_call 202; (with_reducible refine (r01_neg _ b' A' n' c' (z') (k') ?_ ?_).mono ?_); (exact h'); (omega); rintro e w4 ⟨b5, A5, n5, c5, rfl, h5, hb5⟩; replace h4 := h4.belw hb5; have bw5 := bw4.trans (hb5.mono bw4.size); have lw5 := hb5.size; replace x1a := x1a.b hb5; replace x1b := x1b.b hb5; replace x1c := x1c.b hb5; obtain ⟨ex1_0_0, ex1_0_1⟩ := x1a.c2; obtain ⟨fx1aa, fx1ab⟩ := x1a.f2; obtain ⟨ex1_1_0, ex1_1_1⟩ := x1b.c2; obtain ⟨fx1ba, fx1bb⟩ := x1b.f2))
  all_goals
   go_wp2_with fail
   go_meet
   have kp := (((((Kp.refl w4).sb w.heap.size 0 x1a.box (by decide) (.bool b4)).sb w.heap.size 1 (x1a.box.set ⟨w.heap.size, 0, none⟩ (.bool b4)) (by decide) (.slice A4 n4 c4)).sb (w.heap.size + 1) 0 ((x1b.box.set ⟨w.heap.size, 0, none⟩ (.bool b4)).set ⟨w.heap.size, 1, none⟩ (.slice A4 n4 c4)) (by decide) (.bool b5)).sb (w.heap.size + 1) 1 (((x1b.box.set ⟨w.heap.size, 0, none⟩ (.bool b4)).set ⟨w.heap.size, 1, none⟩ (.slice A4 n4 c4)).set ⟨w.heap.size + 1, 0, none⟩ (.bool b5)) (by decide) (.slice A5 n5 c5))
   exact ⟨rfl, b4, A4, n4, c4, b5, A5, n5, c5, ((((x1a.set_at 0 (.bool b4) #[.bool b4, .slice A n c] (by simp)).set_at 1 (.slice A4 n4 c4) #[.bool b4, .slice A4 n4 c4] (by simp)).fr (w.heap.size + 1) 0 (by omega) (.bool b5)).fr (w.heap.size + 1) 1 (by omega) (.slice A5 n5 c5)), ((((x1b.fr w.heap.size 0 (by omega) (.bool b4)).fr w.heap.size 1 (by omega) (.slice A4 n4 c4)).set_at 0 (.bool b5) #[.bool b5, .slice A' n' c'] (by simp)).set_at 1 (.slice A5 n5 c5) #[.bool b5, .slice A5 n5 c5] (by simp)), ((((x1c.fr w.heap.size 0 (by omega) (.bool b4)).fr w.heap.size 1 (by omega) (.slice A4 n4 c4)).fr (w.heap.size + 1) 0 (by omega) (.bool b5)).fr (w.heap.size + 1) 1 (by omega) (.slice A5 n5 c5)), h4.keep kp, h5.keep kp, ((((bw5.sc w.heap.size 0 (by omega) (.bool b4)).sc w.heap.size 1 (by omega) (.slice A4 n4 c4)).sc (w.heap.size + 1) 0 (by omega) (.bool b5)).sc (w.heap.size + 1) 1 (by omega) (.slice A5 n5 c5)), by simp [World.setCell]; omega⟩
 case rest =>
  clear h h'
  obtain ⟨rfl, b8, A8, n8, c8, b9, A9, n9, c9, y0, y1, y2, h8, h9, bwc, lwc⟩ := hcut
  clear x1a x1b x1c
  have cy0_0 : wc.cell? ⟨w.heap.size, 0, none⟩ = some (.bool b8) := y0.cell 0
  have cy0_1 : wc.cell? ⟨w.heap.size, 1, none⟩ = some (.slice A8 n8 c8) := y0.cell 1
  obtain ⟨ly0_0, ly0_1, ly0_2, ly0_3⟩ := lts0 y0.lt
  have cy1_0 : wc.cell? ⟨w.heap.size + 1, 0, none⟩ = some (.bool b9) := y1.cell 0
  have cy1_1 : wc.cell? ⟨w.heap.size + 1, 1, none⟩ = some (.slice A9 n9 c9) := y1.cell 1
  obtain ⟨ly1_0, ly1_1, ly1_2, ly1_3⟩ := lts1 y1.lt
  go_wp2_with fail
  (with_reducible refine (r01_gcd _ b8 A8 n8 c8 (-z) (k) ?_ b9 A9 n9 c9 (-z') (k') ?_ ?_).mono ?_); (exact h8.iz); (exact h9.iz); (omega); rintro e w13 ⟨b13, A13, n13, c13, rfl, h13, q13⟩
  clear cy0_0 cy0_1 ly0_0 ly0_1 ly0_2 ly0_3 cy1_0 cy1_1 ly1_0 ly1_1 ly1_2 ly1_3
  replace h8 := h8.belw q13
  replace h9 := h9.belw q13
  replace y0 := y0.b q13
  replace y1 := y1.b q13
  replace y2 := y2.b q13
  have bw13 := bwc.trans (q13.mono bwc.size)
  have lw13 := q13.size
  clear q13
  obtain ⟨cy0_0, cy0_1⟩ := y0.c2
  obtain ⟨ly0_0, ly0_1, ly0_2, ly0_3⟩ := lts0 y0.lt
  go_wp2_with fail
  (with_reducible refine (r01_div _ b8 A8 n8 c8 (-z) (k) ?_ b13 A13 n13 c13 ((Nat.gcd ((-z)).natAbs ((-z')).natAbs : Nat)) ((k) + (k')) ?_  ?_ ?_ ?_).mono ?_); (exact (h8.belw ((Below.refl _ _).alloc (Nat.le_refl _) _)).iz); (exact (h13.belw ((Below.refl _ _).alloc (Nat.le_refl _) _)).iz); (omega); (exact HG.out); (exact HM1.out); rintro e w14 ⟨b14, A14, n14, c14, b'14, A'14, n'14, c'14, rfl, h14, h'14, hb14⟩
  clear cy0_0 cy0_1 ly0_0 ly0_1 ly0_2 ly0_3
  have q14 := hb14.q1
  replace h8 := h8.belw q14
  replace h9 := h9.belw q14
  replace h13 := h13.belw q14
  replace y0 := y0.b q14
  replace y1 := y1.b q14
  replace y2 := y2.b q14
  have x14a : Blk w14 w13.heap.size 123 #[.bool b13, .slice A13 n13 c13] := (blkAt _ _ _ (by simp)).below hb14 (by simp)
  have bw14 := bw13.trans (q14.mono bw13.size)
  have lw14 := hb14.l1
  clear q14 bw13
  obtain ⟨cy1_0, cy1_1⟩ := y1.c2
  obtain ⟨ly1_0, ly1_1, ly1_2, ly1_3⟩ := lts1 y1.lt
  have cx14a := x14a.c2
  have lx14a := lts0 x14a.lt
  go_wp2_with fail
  (with_reducible refine (r01_div _ b9 A9 n9 c9 (-z') (k') ?_ b13 A13 n13 c13 ((Nat.gcd ((-z)).natAbs ((-z')).natAbs : Nat)) ((k) + (k')) ?_  ?_ ?_ ?_).mono ?_); (exact (h9.belw (((Below.refl _ _).alloc (Nat.le_refl _) _).alloc (by simp) _)).iz); (exact (h13.belw (((Below.refl _ _).alloc (Nat.le_refl _) _).alloc (by simp) _)).iz); (omega); (exact HG.out); (exact HM2.out); rintro e w15 ⟨b15, A15, n15, c15, b'15, A'15, n'15, c'15, rfl, h15, h'15, hb15⟩
  clear cy1_0 cy1_1 ly1_0 ly1_1 ly1_2 ly1_3 cx14a lx14a
  have q15 := hb15.q2
  replace h8 := h8.belw q15
  replace h9 := h9.belw q15
  replace h13 := h13.belw q15
  replace h14 := h14.belw q15
  replace h'14 := h'14.belw q15
  replace y0 := y0.b q15
  replace y1 := y1.b q15
  replace y2 := y2.b q15
  replace x14a := x14a.b q15
  have x15a : Blk w15 w14.heap.size 123 #[.bool b14, .slice A14 n14 c14] := ((blkAt _ _ _ (by simp)).alloc _).below hb15 (by simp <;> omega)
  have x15b := (blkAt _ _ _ (g := w14.heap.size + 1) (by simp)).below hb15 (by simp)
  have bw15 := bw14.trans (q15.mono bw14.size)
  have lw15 := hb15.l2
  clear q15 bw14
  have cy2 := y2.c3
  have fy2 := y2.f3
  have ly2 := lts2 y2.lt
  have cx15a := x15a.c2
  have lx15a := lts0 x15a.lt
  go_wp2_with fail
  refine bodyPost_ret (v := .agg #[.bool b14, .slice A14 n14 c14, .slice A15 n15 c15]) (by simp [results, Tryz.results159, go_sem, *] <;> trivial) rfl ?_
  obtain ⟨e1, e2, e3⟩ := form_any HN.out HP.out HQ.out
  exact ⟨_, _, _, _, _, _, _, rfl, QV.mk_ (by rw [e1]; exact h14.2.1.keep ((((((Kp.refl w15).sb (w.heap.size + 1 + 1) 0 y2.box (by decide) (.bool b14)).sb (w.heap.size + 1 + 1) 1 (y2.box.set ⟨w.heap.size + 1 + 1, 0, none⟩ (.bool b14)) (by decide) (.slice A14 n14 c14)).sb (w.heap.size + 1 + 1) 2 ((y2.box.set ⟨w.heap.size + 1 + 1, 0, none⟩ (.bool b14)).set ⟨w.heap.size + 1 + 1, 1, none⟩ (.slice A14 n14 c14)) (by decide) (.slice A15 n15 c15)).alloc (.cells #[.bool b15, .slice A15 n15 c15] 123)).alloc (.cells #[.bool b'15, .slice A'15 n'15 c'15] 123))) (by rw [e2]; exact h15.2.1.keep ((((((Kp.refl w15).sb (w.heap.size + 1 + 1) 0 y2.box (by decide) (.bool b14)).sb (w.heap.size + 1 + 1) 1 (y2.box.set ⟨w.heap.size + 1 + 1, 0, none⟩ (.bool b14)) (by decide) (.slice A14 n14 c14)).sb (w.heap.size + 1 + 1) 2 ((y2.box.set ⟨w.heap.size + 1 + 1, 0, none⟩ (.bool b14)).set ⟨w.heap.size + 1 + 1, 1, none⟩ (.slice A14 n14 c14)) (by decide) (.slice A15 n15 c15)).alloc (.cells #[.bool b15, .slice A15 n15 c15] 123)).alloc (.cells #[.bool b'15, .slice A'15 n'15 c'15] 123))) (by rw [e3]; exact h14.1.symm) HS.out, (((((bw15.sc (w.heap.size + 1 + 1) 0 (by omega) (.bool b14)).sc (w.heap.size + 1 + 1) 1 (by omega) (.slice A14 n14 c14)).sc (w.heap.size + 1 + 1) 2 (by omega) (.slice A15 n15 c15)).alloc (by first | omega | (simp <;> omega)) (.cells #[.bool b15, .slice A15 n15 c15] 123)).alloc (by first | omega | (simp <;> omega)) (.cells #[.bool b'15, .slice A'15 n'15 c'15] 123))⟩
theorem g_form (w : World)  (b A n c z k) (h : IZ w b A n c z k) (b' A' n' c' z' k') (h' : IZ w b' A' n' c' z' k') (q : Rat) (K : Nat) (hd : z' ≠ 0) (hq : Rat.divInt z z' = q) (hs : Sz q K) (hk : k + k' ≤ 300000000) :
    Calls Tryz.prog 159 #[.agg #[.bool b, .slice A n c], .agg #[.bool b', .slice A' n' c']] w (RetF w q K) := by
  by_cases s : z = 0
  · rw [← hq, s, Rat.zero_divInt]; exact g_form_0 w b A n c z k h b' A' n' c' z' k' h' K s hk
  · rcases sign3 z' with t | t | t
    · exact absurd t hd
    · exact g_form_p w b A n c z k h b' A' n' c' z' k' h' q K s t hq hs hk
    · exact g_form_n w b A n c z k h b' A' n' c' z' k' h' q K s t hq hs hk
end Go.Proofs.YtoiijifnfdgfpaaGreatDoor

/- Walks: the reference: fractions, sums and differences. -/
namespace Go.Proofs.YtoiijifnfdgfpaaGreatDoor
open Go Go.RowKit Bn
attribute [local go_sem ↓] Go.wp_at_zero Go.wp_at_succ
theorem g_from (w : World) (b A n c z k) (h : IZ w b A n c z k) (b' A' n' c' z' k') (h' : IZ w b' A' n' c' z' k') (q : Rat) (K : Nat) (hd : z' ≠ 0) (hq : Rat.divInt z z' = q) (hs : Sz q K) (hk : k + k' ≤ 300000000) :
  Calls Tryz.prog 157 #[.agg #[.bool b, .slice A n c], .agg #[.bool b', .slice A' n' c']] w (RetFe w (.int .i64 0) q K) := by
 obtain ⟨s, hs1⟩ : ∃ s, z'.sign = s := ⟨_, rfl⟩
 have e0 : ((s : Int) == 0) = false := by simp; rintro rfl; exact hd (Int.sign_eq_zero_iff_zero.1 hs1)
 have HS1 := Lib.hid hs1
 have HD := Lib.hid hd
 have HQ := Lib.hid hq
 have HS := Lib.hid hs
 clear hs1 hd hq hs
 go_enter Tryz.func157, Tryz.ntmps157
 go_wp2_with fail
 (with_reducible refine (r01_sign_e _ b' A' n' c' (z') (k') ?_ s ?_ ?_).mono ?_); (exact (h'.belw ((((Below.refl _ _).alloc (Nat.le_refl _) _).alloc (by simp) _).alloc (by simp <;> omega) _))); (exact HS1.out); (omega); rintro e w1 ⟨rfl, hb1⟩
 have q1 := hb1.q3
 replace h := h.belw q1
 replace h' := h'.belw q1
 have x1a : Blk w1 w.heap.size 123 #[.bool b, .slice A n c] := (((blkAt _ _ _ (by simp)).alloc _).alloc _).below hb1 (by simp <;> omega)
 have x1b := ((blkAt _ _ _ (g := w.heap.size + 1) (by simp)).alloc _).below hb1 (by simp <;> omega)
 have x1c := (blkAt _ _ _ (g := w.heap.size + 1 + 1) (by simp)).below hb1 (by simp)
 have bw1 := (brefl w).trans (q1.mono (brefl w).size)
 have lw1 := hb1.l3
 clear q1
 have cx1a := x1a.c2
 have lx1a := lts0 x1a.lt
 have cx1b := x1b.c2
 have lx1b := lts1 x1b.lt
 go_wp2_with fail
 (with_reducible refine (g_form _ b A n c (z) (k) ?_ b' A' n' c' (z') (k') ?_ q K ?_ ?_ ?_ ?_).mono ?_); (exact h); (exact h'); (exact HD.out); (exact HQ.out); (exact HS.out); (omega); rintro e w2 ⟨b2, A2, n2, c2, A'2, n'2, c'2, rfl, h2, q2⟩
 clear cx1a lx1a cx1b lx1b
 replace h := h.belw q2
 replace h' := h'.belw q2
 replace x1a := x1a.b q2
 replace x1b := x1b.b q2
 replace x1c := x1c.b q2
 have bw2 := bw1.trans (q2.mono bw1.size)
 have lw2 := q2.size
 clear q2 bw1
 have cx1c := x1c.c3
 have fx1c := x1c.f3
 have lx1c := lts2 x1c.lt
 go_wp2_with fail
 refine bodyPost_ret (v := .tuple #[.agg #[.bool b2, .slice A2 n2 c2, .slice A'2 n'2 c'2], .int .i64 0]) (by simp [results, Tryz.results157, go_sem, *] <;> trivial) rfl ?_
 exact ⟨b2, A2, n2, c2, A'2, n'2, c'2, rfl, h2.keep ((((Kp.refl w2).sb (w.heap.size + 1 + 1) 0 x1c.box (by decide) (.bool b2)).sb (w.heap.size + 1 + 1) 1 (x1c.box.set ⟨w.heap.size + 1 + 1, 0, none⟩ (.bool b2)) (by decide) (.slice A2 n2 c2)).sb (w.heap.size + 1 + 1) 2 ((x1c.box.set ⟨w.heap.size + 1 + 1, 0, none⟩ (.bool b2)).set ⟨w.heap.size + 1 + 1, 1, none⟩ (.slice A2 n2 c2)) (by decide) (.slice A'2 n'2 c'2)), (((bw2.sc (w.heap.size + 1 + 1) 0 (by omega) (.bool b2)).sc (w.heap.size + 1 + 1) 1 (by omega) (.slice A2 n2 c2)).sc (w.heap.size + 1 + 1) 2 (by omega) (.slice A'2 n'2 c'2))⟩
theorem g_make (w : World) (i j : Int) (hi : -4294967296 < i) (hi2 : i < 4294967296) (hj : -4294967296 < j) (hj2 : j < 4294967296) (q : Rat) (K : Nat) (hd : j ≠ 0) (hq : Rat.divInt i j = q) (hs : Sz q K) :
  Calls Tryz.prog 116 #[.int .i64 i, .int .i64 j] w (RetFe w (.int .i64 0) q K) := by
 have HD := Lib.hid hd
 have HQ := Lib.hid hq
 have HS := Lib.hid hs
 clear hd hq hs
 go_enter Tryz.func116, Tryz.ntmps116
 go_wp2_with fail
 (with_reducible refine (r01_of1 _ (i) ?_ ?_).mono ?_); (omega); (omega); rintro e w1 ⟨b1, A1, n1, c1, rfl, h1, hb1⟩
 have q1 := hb1.q1
 have x1a : Blk w1 w.heap.size 72 #[.bool false, .slice none 0 0, .slice none 0 0] := (blkAt _ _ _ (by simp)).below hb1 (by simp)
 have bw1 := (brefl w).trans (q1.mono (brefl w).size)
 have lw1 := hb1.l1
 clear q1
 go_wp2_with fail
 (with_reducible refine (r01_of1 _ (j) ?_ ?_).mono ?_); (omega); (omega); rintro e w2 ⟨b2, A2, n2, c2, rfl, h2, q2⟩
 replace h1 := h1.belw q2
 replace x1a := x1a.b q2
 have bw2 := bw1.trans (q2.mono bw1.size)
 have lw2 := q2.size
 clear q2 bw1
 go_wp2_with fail
 (with_reducible refine (g_from _ b1 A1 n1 c1 (i) (1) ?_ b2 A2 n2 c2 (j) (1) ?_ q K ?_ ?_ ?_ ?_).mono ?_); (exact h1.iz); (exact h2.iz); (exact HD.out); (exact HQ.out); (exact HS.out); (decide); rintro e w3 ⟨b3, A3, n3, c3, A'3, n'3, c'3, rfl, h3, q3⟩
 replace h1 := h1.belw q3
 replace h2 := h2.belw q3
 replace x1a := x1a.b q3
 have bw3 := bw2.trans (q3.mono bw2.size)
 have lw3 := q3.size
 clear q3 bw2
 have cx1a := x1a.c3
 have fx1a := x1a.f3
 have lx1a := lts0 x1a.lt
 go_wp2_with fail
 refine bodyPost_ret (v := .tuple #[.agg #[.bool b3, .slice A3 n3 c3, .slice A'3 n'3 c'3], .int .i64 0]) (by simp [results, Tryz.results116, go_sem, *] <;> trivial) rfl ?_
 exact ⟨b3, A3, n3, c3, A'3, n'3, c'3, rfl, h3.keep ((((Kp.refl w3).sb w.heap.size 0 x1a.box (by decide) (.bool b3)).sb w.heap.size 1 (x1a.box.set ⟨w.heap.size, 0, none⟩ (.bool b3)) (by decide) (.slice A3 n3 c3)).sb w.heap.size 2 ((x1a.box.set ⟨w.heap.size, 0, none⟩ (.bool b3)).set ⟨w.heap.size, 1, none⟩ (.slice A3 n3 c3)) (by decide) (.slice A'3 n'3 c'3)), (((bw3.sc w.heap.size 0 (by omega) (.bool b3)).sc w.heap.size 1 (by omega) (.slice A3 n3 c3)).sc w.heap.size 2 (by omega) (.slice A'3 n'3 c'3))⟩
end Go.Proofs.YtoiijifnfdgfpaaGreatDoor

/- Walks: the reference: products and quotients of fractions. -/
namespace Go.Proofs.YtoiijifnfdgfpaaGreatDoor
open Go Go.RowKit Bn
attribute [local go_sem ↓] Go.wp_at_zero Go.wp_at_succ
theorem g_of (w : World) (i : Int) (hi : -4294967296 < i) (hi2 : i < 4294967296) :
  Calls Tryz.prog 117 #[.int .i64 i] w (RetF w (i : Rat) 1) := by
 go_enter Tryz.func117, Tryz.ntmps117
 go_wp2_with fail
 (with_reducible refine (r01_of1 _ (i) ?_ ?_).mono ?_); (omega); (omega); rintro e w1 ⟨b1, A1, n1, c1, rfl, h1, hb1⟩
 have q1 := hb1.q1
 have x1a : Blk w1 w.heap.size 72 #[.bool false, .slice none 0 0, .slice none 0 0] := (blkAt _ _ _ (by simp)).below hb1 (by simp)
 have bw1 := (brefl w).trans (q1.mono (brefl w).size)
 have lw1 := hb1.l1
 clear q1
 go_wp2_with fail
 (with_reducible refine (g_one _).mono ?_); rintro e w2 ⟨b2, A2, n2, c2, rfl, h2, q2⟩
 replace h1 := h1.belw q2
 replace x1a := x1a.b q2
 have bw2 := bw1.trans (q2.mono bw1.size)
 have lw2 := q2.size
 clear q2 bw1
 go_wp2_with fail
 (with_reducible refine (g_form _ b1 A1 n1 c1 (i) (1) ?_ b2 A2 n2 c2 (1) (1) ?_ ((i : Rat)) (1) ?_ ?_ ?_ ?_).mono ?_); (exact h1.iz); (exact h2.iz); (decide); (exact int_q i); (exact Sz_int (by omega) (by decide)); (decide); rintro e w3 ⟨b3, A3, n3, c3, A'3, n'3, c'3, rfl, h3, q3⟩
 replace h1 := h1.belw q3
 replace h2 := h2.belw q3
 replace x1a := x1a.b q3
 have bw3 := bw2.trans (q3.mono bw2.size)
 have lw3 := q3.size
 clear q3 bw2
 have cx1a := x1a.c3
 have fx1a := x1a.f3
 have lx1a := lts0 x1a.lt
 go_wp2_with fail
 refine bodyPost_ret (v := .agg #[.bool b3, .slice A3 n3 c3, .slice A'3 n'3 c'3]) (by simp [results, Tryz.results117, go_sem, *] <;> trivial) rfl ?_
 exact ⟨b3, A3, n3, c3, A'3, n'3, c'3, rfl, h3.keep ((((Kp.refl w3).sb w.heap.size 0 x1a.box (by decide) (.bool b3)).sb w.heap.size 1 (x1a.box.set ⟨w.heap.size, 0, none⟩ (.bool b3)) (by decide) (.slice A3 n3 c3)).sb w.heap.size 2 ((x1a.box.set ⟨w.heap.size, 0, none⟩ (.bool b3)).set ⟨w.heap.size, 1, none⟩ (.slice A3 n3 c3)) (by decide) (.slice A'3 n'3 c'3)), (((bw3.sc w.heap.size 0 (by omega) (.bool b3)).sc w.heap.size 1 (by omega) (.slice A3 n3 c3)).sc w.heap.size 2 (by omega) (.slice A'3 n'3 c'3))⟩
end Go.Proofs.YtoiijifnfdgfpaaGreatDoor

/- Texts of fractions: plain. -/
namespace Bn
open Go.Lib
theorem okZ_mem {l : List UInt8} (h : okZ l = true) {c : UInt8} (hc : c ∈ l) : isDg c = true ∨ c = 45 := by
  have h1 : (tailS l).all isDg = true := by unfold okZ at h; simp at h; simpa using h.1.2
  rw [List.all_eq_true] at h1
  unfold tailS at h1
  split at h1
  · rename_i r
    rcases List.mem_cons.1 hc with e | e
    · exact .inr e
    · exact .inl (h1 c e)
  · exact .inl (h1 c hc)
theorem okZ_slash {l : List UInt8} (h : okZ l = true) : 47 ∉ l ∧ 46 ∉ l := by
  constructor
  · intro hc
    rcases okZ_mem h hc with e | e
    · exact absurd e (by decide)
    · exact absurd e (by decide)
  · intro hc
    rcases okZ_mem h hc with e | e
    · exact absurd e (by decide)
    · exact absurd e (by decide)
theorem cut_uniq {c : UInt8} : ∀ {a b x y : List UInt8}, c ∉ a → c ∉ x → a ++ c :: b = x ++ c :: y → a = x ∧ b = y := by
  intro a
  induction a with
  | nil =>
    intro b x y _ hx h
    cases x with
    | nil => simp at h; exact ⟨rfl, h⟩
    | cons z r => simp at h; exact absurd h.1 (fun e => hx (by rw [e]; simp))
  | cons w r ih =>
    intro b x y ha hx h
    cases x with
    | nil => simp at h; exact absurd h.1 (fun e => ha (by rw [e]; simp))
    | cons z s =>
      simp at h ha hx
      obtain ⟨e1, e2⟩ := ih ha.2 hx.2 h.2
      exact ⟨by rw [h.1, e1], e2⟩
def ratText (q : Rat) : List UInt8 := if q.den = 1 then itoa q.num else itoa q.num ++ 47 :: itoa (q.den : Int)
theorem index_at {c : UInt8} : ∀ {a b : List UInt8}, c ∉ a → index (a ++ c :: b) [c] = (a.length : Int) := by
  intro a
  induction a with
  | nil => intro b _; rw [List.nil_append, index, if_pos (by simp [List.isPrefixOf])]; rfl
  | cons x r ih =>
    intro b h
    simp at h
    have hp : List.isPrefixOf [c] (x :: (r ++ c :: b)) = false := by simp [List.isPrefixOf]; exact h.1
    rw [List.cons_append, index, hp, ih (b := b) h.2]
    have : ((r.length : Int) == -1) = false := by rw [beq_eq_false_iff_ne]; omega
    simp [this]
theorem index_no {c : UInt8} : ∀ {a : List UInt8}, c ∉ a → index a [c] = -1 := by
  intro a
  induction a with
  | nil => intro _; rfl
  | cons x r ih =>
    intro h
    simp at h
    have hp : List.isPrefixOf [c] (x :: r) = false := by simp [List.isPrefixOf]; exact h.1
    rw [index, hp, ih h.2]
    rfl
theorem cut_at {c : UInt8} {a b : List UInt8} (h : c ∉ a) : cut (a ++ c :: b) [c] = (a, b, true) := by
  unfold cut
  rw [index_at h, if_pos (by omega)]
  simp
theorem cut_no {c : UInt8} {a : List UInt8} (h : c ∉ a) : cut a [c] = (a, [], false) := by
  unfold cut
  rw [index_no h, if_neg (by omega)]
end Bn

/- Walks: what the integer laws lean on: short, Same; roots and texts as values. -/
namespace Go.Proofs.YtoiijifnfdgfpaaGreatDoor
open Go Go.RowKit Bn
attribute [local go_sem ↓] Go.wp_at_zero Go.wp_at_succ
def Ws (w : World) (g N : Nat) (ns : Nat → Nat) : Prop := g < w.heap.size ∧ ∀ i, i < N → ∃ b A c, w.cell? ⟨g, i * 2, none⟩ = some (.bool b) ∧ w.cell? ⟨g, i * 2 + 1, none⟩ = some (.slice A (ns i) c)
theorem Ws.belw {w w' : World} {g N : Nat} {ns : Nat → Nat} (h : Ws w g N ns) (hb : Below w.heap.size w w') : Ws w' g N ns := by
  obtain ⟨hg, h⟩ := h
  have hc := (bcell hb).1
  refine ⟨Nat.lt_of_lt_of_le hg hb.size, fun i hi => ?_⟩
  obtain ⟨b, A, c, h1, h2⟩ := h i hi
  exact ⟨b, A, c, (hc _ _ hg).trans h1, (hc _ _ hg).trans h2⟩
end Go.Proofs.YtoiijifnfdgfpaaGreatDoor

/- Walks: the opening of the integer laws. -/
namespace Go.Proofs.YtoiijifnfdgfpaaGreatDoor
open Go Go.RowKit Bn
attribute [local go_sem ↓] Go.wp_at_zero Go.wp_at_succ
theorem IZ.short {w : World} {b : Bool} {A : Option Addr} {n c k : Nat} {z : Int} (h : IZ w b A n c z k) (hs : n ≤ 30) : IZ w b A n c z 30 := by
  obtain ⟨l, h1, h2, _⟩ := h
  exact ⟨l, h1, h2, hs⟩
end Go.Proofs.YtoiijifnfdgfpaaGreatDoor

/- Walks: fractions: From by 0, Make, Floor, Bits, Abs, Min, Max. -/
namespace Go.Proofs.YtoiijifnfdgfpaaGreatDoor
open Go Go.RowKit Bn
attribute [local go_sem ↓] Go.wp_at_zero Go.wp_at_succ
theorem cmpI_rc (a b : Rat) : cmpI (a.num * b.den) (b.num * a.den) = rcmp a b := by
  unfold cmpI rcmp
  have h := cmp_q a b
  by_cases h1 : a < b
  · rw [if_pos h1, if_pos (h.1.2 h1)]
  · rw [if_neg h1, if_neg (fun x => h1 (h.1.1 x))]
    by_cases h2 : a = b
    · rw [if_pos h2, if_pos (h.2.2 h2)]
    · rw [if_neg h2, if_neg (fun x => h2 (h.2.1 x))]
theorem f_cmp_v (w : World) (b A n c D m e q k) (h : QZ w b A n c D m e q k) (b' A' n' c' D' m' e' q' k') (h' : QZ w b' A' n' c' D' m' e' q' k') (s : Int) (hs : rcmp q q' = s) (h0 : 0 < k) (hk : k ≤ 40000000) (h0' : 0 < k') (hk' : k' ≤ 40000000) : Calls Tryz.prog 149 #[.agg #[.bool b, .slice A n c, .slice D m e], .agg #[.bool b', .slice A' n' c', .slice D' m' e']] w (RetV w (.int .i64 s)) := by
  subst hs; rw [← cmpI_rc]; exact f_cmp w b A n c D m e q k h b' A' n' c' D' m' e' q' k' h' h0 hk h0' hk'
theorem f_from_0 (w : World) (b A n c z k) (h : IZ w b A n c z k) (b' A' n' c' z' k') (h' : IZ w b' A' n' c' z' k') (hd : z' = 0) (hk : k + k' ≤ 300000000) :
  Calls Tryz.prog 194 #[.agg #[.bool b, .slice A n c], .agg #[.bool b', .slice A' n' c']] w (RetFe w (.iface 63 (.int .i64 8)) 0 1) := by
 have HS := Lib.hid (show z'.sign = 0 by rw [hd]; rfl)
 clear hd
 go_enter Tryz.func194, Tryz.ntmps194
 go_wp2_with fail
 (with_reducible refine (i_sign_e _ b' A' n' c' (z') (k') ?_ 0 ?_ ?_).mono ?_); (exact (h'.belw ((((Below.refl _ _).alloc (Nat.le_refl _) _).alloc (by simp) _).alloc (by simp <;> omega) _))); (exact HS.out); (omega); rintro e w1 ⟨rfl, hb1⟩
 have q1 := hb1.q3
 replace h := h.belw q1
 replace h' := h'.belw q1
 have x1a : Blk w1 w.heap.size 123 #[.bool b, .slice A n c] := (((blkAt _ _ _ (by simp)).alloc _).alloc _).below hb1 (by simp <;> omega)
 have x1b := ((blkAt _ _ _ (g := w.heap.size + 1) (by simp)).alloc _).below hb1 (by simp <;> omega)
 have x1c := (blkAt _ _ _ (g := w.heap.size + 1 + 1) (by simp)).below hb1 (by simp)
 have bw1 := (brefl w).trans (q1.mono (brefl w).size)
 have lw1 := hb1.l3
 clear q1
 have cx1c := x1c.c3
 have fx1c := x1c.f3
 have lx1c := lts2 x1c.lt
 go_wp2_with fail
 refine bodyPost_ret (v := .tuple #[.agg #[.bool false, .slice none 0 0, .slice none 0 0], .iface 63 (.int .i64 8)]) (by simp [results, Tryz.results194, go_sem, *] <;> trivial) rfl ?_
 exact ⟨_, _, _, _, _, _, _, rfl, QV.zero _ _, (((bw1.sc (w.heap.size + 1 + 1) 0 (by omega) (.bool false)).sc (w.heap.size + 1 + 1) 1 (by omega) (.slice none 0 0)).sc (w.heap.size + 1 + 1) 2 (by omega) (.slice none 0 0))⟩
end Go.Proofs.YtoiijifnfdgfpaaGreatDoor

/- Texts of integers by their values; errors as numbers. -/
namespace Go.Proofs.YtoiijifnfdgfpaaGreatDoor
open Go Go.RowKit Bn
attribute [local go_sem ↓] Go.wp_at_zero Go.wp_at_succ

theorem i_text_l (w : World) (b A n c z k) (h : IZ w b A n c z k) (T : List UInt8) (hk : k ≤ 1000000000) (ht : Tab w) (hT : Lib.itoa z = T) : Calls Tryz.prog 137 #[.agg #[.bool b, .slice A n c]] w (RetV w (strV T)) := by
  subst hT
  obtain ⟨l, h1, rfl, h3⟩ := h
  exact text_C w b A n c l h1 (by omega) ht
theorem i_cmp_w (w : World) (b A n c z k) (h : IZ w b A n c z k) (b' A' n' c' z' k') (h' : IZ w b' A' n' c' z' k') (v : Int) (hv : cmpI z z' = v) (hk : k + k' ≤ 1000000000) : Calls Tryz.prog 71 #[.agg #[.bool b, .slice A n c], .agg #[.bool b', .slice A' n' c']] w (RetV w (.int .i64 v)) := by
  subst hv; exact i_cmp w b A n c z k h b' A' n' c' z' k' h' hk
end Go.Proofs.YtoiijifnfdgfpaaGreatDoor

/- Walks: fractions: Root, Grid. -/
namespace Go.Proofs.YtoiijifnfdgfpaaGreatDoor
open Go Go.RowKit Bn
attribute [local go_sem ↓] Go.wp_at_zero Go.wp_at_succ
theorem i_cmp_v2 (w : World) (b A n c z k) (h : IZ w b A n c z k) (b' A' n' c' z' k') (h' : IZ w b' A' n' c' z' k') (v : Int) (hv : cmpI z z' = v) (hk : k + k' ≤ 999999999) : Calls Tryz.prog 71 #[.agg #[.bool b, .slice A n c], .agg #[.bool b', .slice A' n' c']] w (RetV w (.int .i64 v)) := by
  subst hv; exact i_cmp w b A n c z k h b' A' n' c' z' k' h' (by omega)
end Go.Proofs.YtoiijifnfdgfpaaGreatDoor

/- Texts of fractions: what reading one gives. Plain. -/
namespace Bn
open Go.Lib
def decOk (F B : List UInt8) : Bool := okZ (tailS F) && decide (0 ≤ valZ (tailS F)) && decide (B ≠ []) && B.all isDg
def decN (F B : List UInt8) : Int := valZ (tailS F) * 10 ^ B.length + decVal B
def decQ (F B : List UInt8) : Rat := Rat.divInt (if headM F then -(decN F B) else decN F B) (10 ^ B.length)
def quoOk (F B : List UInt8) : Bool := okZ F && okZ B && decide (0 < valZ B) && decide (valZ B ≠ 1) && decide (Nat.gcd (valZ F).natAbs (valZ B).natAbs = 1)
inductive FracOut (s : List UInt8) (x : Int) (q : Rat) : Prop
  | big (h : 65536 < s.length) (hx : x = 4) (hq : q = 0)
  | dot (F B : List UInt8) (hl : s.length ≤ 65536) (hs : s = F ++ 46 :: B) (hF : 46 ∉ F) (h64 : s.length ≤ 64) (h : decOk F B = true) (hx : x = 0) (hq : q = decQ F B)
  | dotNo (F B : List UInt8) (hl : s.length ≤ 65536) (hs : s = F ++ 46 :: B) (hF : 46 ∉ F) (h : 64 < s.length ∨ decOk F B = false) (hx : x = 2) (hq : q = 0)
  | quo (F B : List UInt8) (hl : s.length ≤ 65536) (hd : 46 ∉ s) (hs : s = F ++ 47 :: B) (hF : 47 ∉ F) (h : quoOk F B = true) (hx : x = 0) (hq : q = Rat.divInt (valZ F) (valZ B))
  | quoNo (F B : List UInt8) (hl : s.length ≤ 65536) (hd : 46 ∉ s) (hs : s = F ++ 47 :: B) (hF : 47 ∉ F) (h : quoOk F B = false) (hx : x = 2) (hq : q = 0)
  | whole (hl : s.length ≤ 65536) (hd : 46 ∉ s) (hs : 47 ∉ s) (h : okZ s = true) (hx : x = 0) (hq : q = ((valZ s : Int) : Rat))
  | wholeNo (hl : s.length ≤ 65536) (hd : 46 ∉ s) (hs : 47 ∉ s) (h : okZ s = false) (hx : x = 2) (hq : q = 0)
theorem quoOk_parts {F B : List UInt8} (h : quoOk F B = true) : okZ F = true ∧ okZ B = true ∧ 0 < valZ B ∧ valZ B ≠ 1 ∧ Nat.gcd (valZ F).natAbs (valZ B).natAbs = 1 := by
  unfold quoOk at h
  rw [Bool.and_eq_true, Bool.and_eq_true, Bool.and_eq_true, Bool.and_eq_true, decide_eq_true_eq, decide_eq_true_eq, decide_eq_true_eq] at h
  exact ⟨h.1.1.1.1, h.1.1.1.2, h.1.1.2, h.1.2, h.2⟩
theorem ratText_out (q : Rat) (hl : (ratText q).length ≤ 65536) : FracOut (ratText q) 0 q := by
  by_cases hd : q.den = 1
  · have e : ratText q = itoa q.num := if_pos hd
    rw [e] at hl ⊢
    have ho := itoa_ok q.num
    refine .whole hl (okZ_slash ho.1).2 (okZ_slash ho.1).1 ho.1 rfl ?_
    rw [ho.2]
    exact (Rat.ext (by simp) (by simp [hd]))
  · have e : ratText q = itoa q.num ++ 47 :: itoa (q.den : Int) := if_neg hd
    rw [e] at hl ⊢
    have hn := itoa_ok q.num
    have hm := itoa_ok (q.den : Int)
    have hp : 0 < q.den := q.den_pos
    refine .quo _ _ hl ?_ rfl (okZ_slash hn.1).1 ?_ rfl ?_
    · intro h
      rcases List.mem_append.1 h with h | h
      · exact (okZ_slash hn.1).2 h
      · rcases List.mem_cons.1 h with h | h
        · exact absurd h (by decide)
        · exact (okZ_slash hm.1).2 h
    · unfold quoOk
      rw [hn.1, hm.1, hn.2, hm.2]
      have h1 : Nat.gcd q.num.natAbs q.den = 1 := q.reduced
      simp [h1]
      omega
    · rw [hn.2, hm.2]
      rw [Rat.divInt_ofNat]; exact (Rat.mkRat_self q).symm
end Bn

/- Walks: linkworkref01.Parse. -/
namespace Go.Proofs.YtoiijifnfdgfpaaGreatDoor
open Go Go.RowKit Bn
attribute [local go_sem ↓] Go.wp_at_zero Go.wp_at_succ

def RetP (w : World) (T : List UInt8) (m : Bool) (k : Nat) (e : Ending) (w' : World) : Prop :=
  if T.all isDg = true then RetIe w (.int .i64 0) (if m then -(decVal T : Int) else decVal T) k e w' else RetIe w (.int .i64 2) 0 0 e w'
theorem RetP.bad {w w' : World} {T : List UInt8} {m : Bool} {k : Nat} {e : Ending} (h : ¬ T.all isDg = true) (hr : RetIe w (.int .i64 2) 0 0 e w') : RetP w T m k e w' := by
  unfold RetP; rw [if_neg h]; exact hr
theorem RetP.good {w w' : World} {T : List UInt8} {m : Bool} {k : Nat} {e : Ending} (h : T.all isDg = true) (hr : RetIe w (.int .i64 0) (if m then -(decVal T : Int) else decVal T) k e w') : RetP w T m k e w' := by
  unfold RetP; rw [if_pos h]; exact hr
end Go.Proofs.YtoiijifnfdgfpaaGreatDoor

/- Walks: IntegerTexts. -/
namespace Go.Proofs.YtoiijifnfdgfpaaGreatDoor
open Go Go.RowKit Bn
attribute [local go_sem ↓] Go.wp_at_zero Go.wp_at_succ
def errV (x : Int) : Value := if x = 0 then .nilIface else .iface 63 (.int .i64 x)
theorem errV_0 : errV 0 = .nilIface := if_pos rfl
theorem RetIe.mono {w w' : World} {v : Value} {z : Int} {k j : Nat} {e : Ending} (h : RetIe w v z k e w') (hk : k ≤ j) : RetIe w v z j e w' := by
  obtain ⟨b, A, n, c, h1, h2, h3⟩ := h
  exact ⟨b, A, n, c, h1, h2.mono hk, h3⟩
end Go.Proofs.YtoiijifnfdgfpaaGreatDoor

/- Walks: tokens: numbers. -/
namespace Go.Proofs.YtoiijifnfdgfpaaGreatDoor
open Go Go.RowKit Bn
attribute [local go_sem ↓] Go.wp_at_zero Go.wp_at_succ
theorem minN_at (s : List UInt8) (i : Nat) : minN (s.drop i) = if atB s i = 45 then 1 else 0 := by
  rcases Nat.lt_or_ge i s.length with h | h
  · rw [drop_at h]
    unfold minN
    split
    · rename_i e; injection e with e1 e2; rw [if_pos e1]
    · rename_i e; rw [if_neg (fun e1 => e _ (by rw [e1]))]
  · rw [List.drop_eq_nil_of_le h, atB_ge h]; rfl
theorem tailN_at (s : List UInt8) (i : Nat) : tailN (s.drop i) = if (atB s i == 46 || atB s i == 47) && decide (0 < digN (s.drop (i + 1))) then 1 + digN (s.drop (i + 1)) else 0 := by
  rcases Nat.lt_or_ge i s.length with h | h
  · rw [drop_at h]; rfl
  · rw [List.drop_eq_nil_of_le h, atB_ge h]; rfl
theorem num_cases {s : List UInt8} {i v : Nat} (hv : numN (s.drop i) = v) : ∃ m k, ((m = 1 ∧ atB s i = 45) ∨ (m = 0 ∧ atB s i ≠ 45)) ∧ digN (s.drop (i + m)) = k ∧
    ((k = 0 ∧ v = 0) ∨ (0 < k ∧ ∃ d, atB s (i + m + k) = d ∧ ((d ≠ 46 ∧ d ≠ 47 ∧ v = m + k) ∨ ((d = 46 ∨ d = 47) ∧ ∃ t, digN (s.drop (i + m + k + 1)) = t ∧ ((t = 0 ∧ v = m + k) ∨ (0 < t ∧ v = m + k + (1 + t))))))) := by
  unfold numN at hv
  rw [minN_at, List.drop_drop] at hv
  obtain ⟨m, hm⟩ : ∃ m, (if atB s i = 45 then 1 else 0) = m := ⟨_, rfl⟩
  rw [hm] at hv
  have hm2 : (m = 1 ∧ atB s i = 45) ∨ (m = 0 ∧ atB s i ≠ 45) := by
    by_cases h : atB s i = 45
    · rw [if_pos h] at hm; exact .inl ⟨hm.symm, h⟩
    · rw [if_neg h] at hm; exact .inr ⟨hm.symm, h⟩
  obtain ⟨k, hk⟩ : ∃ k, digN (s.drop (i + m)) = k := ⟨_, rfl⟩
  rw [hk, List.drop_drop, tailN_at, ← Nat.add_assoc] at hv
  refine ⟨m, k, hm2, hk, ?_⟩
  by_cases h0 : k = 0
  · rw [if_pos h0] at hv; exact .inl ⟨h0, hv.symm⟩
  · rw [if_neg h0] at hv
    refine .inr ⟨by omega, _, rfl, ?_⟩
    by_cases h1 : atB s (i + m + k) = 46 ∨ atB s (i + m + k) = 47
    · have e : (atB s (i + m + k) == 46 || atB s (i + m + k) == 47) = true := by rcases h1 with h | h <;> rw [h] <;> rfl
      rw [e, Bool.true_and] at hv
      refine .inr ⟨h1, _, rfl, ?_⟩
      by_cases h2 : 0 < digN (s.drop (i + m + k + 1))
      · rw [if_pos (decide_eq_true h2)] at hv; exact .inr ⟨h2, hv.symm⟩
      · rw [if_neg (by rw [decide_eq_false h2]; decide)] at hv; exact .inl ⟨by omega, by omega⟩
    · have a1 : atB s (i + m + k) ≠ 46 := fun h => h1 (.inl h)
      have a2 : atB s (i + m + k) ≠ 47 := fun h => h1 (.inr h)
      rw [beq_eq_false_iff_ne.2 a1, beq_eq_false_iff_ne.2 a2, Bool.or_self, Bool.false_and, if_neg (by decide)] at hv
      exact .inl ⟨a1, a2, by omega⟩
theorem digN_drop {s : List UInt8} {i k : Nat} (h : digN (s.drop i) = k) (hk : 0 < k) : i + k ≤ s.length := by
  have := digN_le (s.drop i)
  rw [h, List.length_drop] at this
  omega
theorem headM_at (s : List UInt8) : headM s = (atB s 0 == 45) := by
  cases s with
  | nil => rfl
  | cons c t =>
    by_cases h : c = 45
    · subst h; rfl
    · have e : (c == 45) = false := beq_eq_false_iff_ne.2 h
      show headM (c :: t) = (c == 45)
      rw [e]; unfold headM
      split
      · rename_i h1; injection h1 with h2; exact absurd h2 h
      · rfl
theorem atB_in {s : List UInt8} {i : Nat} {d : UInt8} (h : atB s i = d) (hd : d ≠ 0) : i < s.length := by
  rcases Nat.lt_or_ge i s.length with x | x
  · exact x
  · rw [atB_ge x] at h; exact absurd h.symm hd
theorem t_number (w : World) (s : List UInt8) (hs : s.length < 4611686018427387904) (v : Nat) (hv : numN s = v) : Calls Tryz.prog 111 #[strV s] w (RetV w (.int .i64 (v : Nat))) := by
  have hszs := size_v s
  obtain ⟨m, k, hm, hk, hc⟩ := num_cases (s := s) (i := 0) hv
  rw [Nat.zero_add] at hk
  simp only [Nat.zero_add] at hc
  clear hv
  rcases hm with ⟨rfl, ham⟩ | ⟨rfl, ham⟩
  · have h0d : 0 < s.length := atB_in ham (by decide)
    have hM : headM s = true := by rw [headM_at]; simp [ham]
    clear ham
    rcases hc with ⟨hk0, hv0⟩ | ⟨hkp, d, hd, hc⟩
    · subst hv0
      subst hk0
      go_enter Tryz.func111, Tryz.ntmps111
      go_wp2_with fail
      (with_reducible refine (prefix_v _ (s) true hM).mono ?_); rintro e w1 ⟨rfl, q1⟩
      have bw1 := (brefl w).trans (q1.mono (brefl w).size)
      have lw1 := q1.size
      clear q1
      go_wp2_with fail
      (with_reducible refine (t_digits_x _ (s) (1) (1) (by omega) (by omega) hs (0) (by have h9 := hk; omega)).mono ?_); rintro e w2 ⟨rfl, q2⟩
      have bw2 := bw1.trans (q2.mono bw1.size)
      have lw2 := q2.size
      clear q2 bw1
      go_wp2_with fail
      go_ret
      exact retI (by omega) bw2
    · have hle : 1 + k ≤ s.length := by have := digN_drop hk hkp; omega
      have hk9 : ((k : Int) == 0) = false := by simp; omega
      have hk8 : ((k : Int) = 0) = False := by simp; omega
      rcases hc with ⟨hd1, hd2, hv9⟩ | ⟨hdd, t, ht, hc⟩
      · have e46 : (((d.toNat : Nat) : Int) == 46) = false := (byte_eq d 46).trans (by simp [hd1])
        have e47 : (((d.toNat : Nat) : Int) == 47) = false := (byte_eq d 47).trans (by simp [hd2])
        clear hd1 hd2
        replace hv9 := hv9.symm
        subst hv9
        have hwe : IntKind.i64.wrap (1 + (k : Int)) = 1 + (k : Int) := IntWalk.i64_in _ ⟨by omega, by omega⟩
        rcases Nat.lt_or_ge (1 + k) s.length with hl | hl
        · have hget : ∀ h, (⟨s.toArray⟩ : ByteArray)[1 + k]'h = d := fun h => by rw [← hd]; exact (atB_lt hl).symm
          have et : (1 + (k : Int)).toNat = 1 + k := by omega
          have hei : 1 + (k : Int) < (s.length : Int) := by omega
          have he0 : (0 : Int) ≤ 1 + (k : Int) := by omega
          go_enter Tryz.func111, Tryz.ntmps111
          go_wp2_with fail
          (with_reducible refine (prefix_v _ (s) true hM).mono ?_); rintro e w1 ⟨rfl, q1⟩
          have bw1 := (brefl w).trans (q1.mono (brefl w).size)
          have lw1 := q1.size
          clear q1
          go_wp2_with fail
          (with_reducible refine (t_digits_x _ (s) (1) (1) (by omega) (by omega) hs ((k : Int)) (by have h9 := hk; omega)).mono ?_); rintro e w2 ⟨rfl, q2⟩
          have bw2 := bw1.trans (q2.mono bw1.size)
          have lw2 := q2.size
          clear q2 bw1
          go_wp2_with fail
          go_ret
          exact retI (by omega) bw2
        · have hei : (1 + (k : Int) < (s.length : Int)) = False := by simp; omega
          go_enter Tryz.func111, Tryz.ntmps111
          go_wp2_with fail
          (with_reducible refine (prefix_v _ (s) true hM).mono ?_); rintro e w1 ⟨rfl, q1⟩
          have bw1 := (brefl w).trans (q1.mono (brefl w).size)
          have lw1 := q1.size
          clear q1
          go_wp2_with fail
          (with_reducible refine (t_digits_x _ (s) (1) (1) (by omega) (by omega) hs ((k : Int)) (by have h9 := hk; omega)).mono ?_); rintro e w2 ⟨rfl, q2⟩
          have bw2 := bw1.trans (q2.mono bw1.size)
          have lw2 := q2.size
          clear q2 bw1
          go_wp2_with fail
          go_ret
          exact retI (by omega) bw2
      · have hl : 1 + k < s.length := by rcases hdd with e | e <;> exact atB_in hd (by rw [e]; decide)
        have hwe : IntKind.i64.wrap (1 + (k : Int)) = 1 + (k : Int) := IntWalk.i64_in _ ⟨by omega, by omega⟩
        have hwe1 : IntKind.i64.wrap (1 + (k : Int) + 1) = 1 + (k : Int) + 1 := IntWalk.i64_in _ ⟨by omega, by omega⟩
        have hget : ∀ h, (⟨s.toArray⟩ : ByteArray)[1 + k]'h = d := fun h => by rw [← hd]; exact (atB_lt hl).symm
        have et : (1 + (k : Int)).toNat = 1 + k := by omega
        have hei : 1 + (k : Int) < (s.length : Int) := by omega
        have he0 : (0 : Int) ≤ 1 + (k : Int) := by omega
        rcases hdd with hd46 | hd47
        · have e46 : (((d.toNat : Nat) : Int) == 46) = true := (byte_eq d 46).trans (by simp [hd46])
          clear hd46
          rcases hc with ⟨ht0, hv9⟩ | ⟨htp, hv9⟩
          · replace hv9 := hv9.symm
            subst hv9
            subst ht0
            go_enter Tryz.func111, Tryz.ntmps111
            go_wp2_with fail
            (with_reducible refine (prefix_v _ (s) true hM).mono ?_); rintro e w1 ⟨rfl, q1⟩
            have bw1 := (brefl w).trans (q1.mono (brefl w).size)
            have lw1 := q1.size
            clear q1
            go_wp2_with fail
            (with_reducible refine (t_digits_x _ (s) (1) (1) (by omega) (by omega) hs ((k : Int)) (by have h9 := hk; omega)).mono ?_); rintro e w2 ⟨rfl, q2⟩
            have bw2 := bw1.trans (q2.mono bw1.size)
            have lw2 := q2.size
            clear q2 bw1
            go_wp2_with fail
            (with_reducible refine (t_digits_x _ (s) ((1 + (k : Int) + 1)) (1 + k + 1) (by omega) (by omega) hs (0) (by have h9 := ht; omega)).mono ?_); rintro e w3 ⟨rfl, q3⟩
            have bw3 := bw2.trans (q3.mono bw2.size)
            have lw3 := q3.size
            clear q3 bw2
            go_wp2_with fail
            go_ret
            exact retI (by omega) bw3
          · replace hv9 := hv9.symm
            subst hv9
            have ht9 : ((0 : Int) < (t : Int)) = True := by simp; omega
            have htl : 1 + k + 1 + t ≤ s.length := by have := digN_drop ht htp; omega
            have hwt : IntKind.i64.wrap (1 + (t : Int)) = 1 + (t : Int) := IntWalk.i64_in _ ⟨by omega, by omega⟩
            have hwt2 : IntKind.i64.wrap (1 + (k : Int) + (1 + (t : Int))) = 1 + (k : Int) + (1 + (t : Int)) := IntWalk.i64_in _ ⟨by omega, by omega⟩
            go_enter Tryz.func111, Tryz.ntmps111
            go_wp2_with fail
            (with_reducible refine (prefix_v _ (s) true hM).mono ?_); rintro e w1 ⟨rfl, q1⟩
            have bw1 := (brefl w).trans (q1.mono (brefl w).size)
            have lw1 := q1.size
            clear q1
            go_wp2_with fail
            (with_reducible refine (t_digits_x _ (s) (1) (1) (by omega) (by omega) hs ((k : Int)) (by have h9 := hk; omega)).mono ?_); rintro e w2 ⟨rfl, q2⟩
            have bw2 := bw1.trans (q2.mono bw1.size)
            have lw2 := q2.size
            clear q2 bw1
            go_wp2_with fail
            (with_reducible refine (t_digits_x _ (s) ((1 + (k : Int) + 1)) (1 + k + 1) (by omega) (by omega) hs ((t : Int)) (by have h9 := ht; omega)).mono ?_); rintro e w3 ⟨rfl, q3⟩
            have bw3 := bw2.trans (q3.mono bw2.size)
            have lw3 := q3.size
            clear q3 bw2
            go_wp2_with fail
            go_ret
            exact retI (by omega) bw3
        · have e46 : (((d.toNat : Nat) : Int) == 46) = false := (byte_eq d 46).trans (by simp [hd47])
          have e47 : (((d.toNat : Nat) : Int) == 47) = true := (byte_eq d 47).trans (by simp [hd47])
          clear hd47
          rcases hc with ⟨ht0, hv9⟩ | ⟨htp, hv9⟩
          · replace hv9 := hv9.symm
            subst hv9
            subst ht0
            go_enter Tryz.func111, Tryz.ntmps111
            go_wp2_with fail
            (with_reducible refine (prefix_v _ (s) true hM).mono ?_); rintro e w1 ⟨rfl, q1⟩
            have bw1 := (brefl w).trans (q1.mono (brefl w).size)
            have lw1 := q1.size
            clear q1
            go_wp2_with fail
            (with_reducible refine (t_digits_x _ (s) (1) (1) (by omega) (by omega) hs ((k : Int)) (by have h9 := hk; omega)).mono ?_); rintro e w2 ⟨rfl, q2⟩
            have bw2 := bw1.trans (q2.mono bw1.size)
            have lw2 := q2.size
            clear q2 bw1
            go_wp2_with fail
            (with_reducible refine (t_digits_x _ (s) ((1 + (k : Int) + 1)) (1 + k + 1) (by omega) (by omega) hs (0) (by have h9 := ht; omega)).mono ?_); rintro e w3 ⟨rfl, q3⟩
            have bw3 := bw2.trans (q3.mono bw2.size)
            have lw3 := q3.size
            clear q3 bw2
            go_wp2_with fail
            go_ret
            exact retI (by omega) bw3
          · replace hv9 := hv9.symm
            subst hv9
            have ht9 : ((0 : Int) < (t : Int)) = True := by simp; omega
            have htl : 1 + k + 1 + t ≤ s.length := by have := digN_drop ht htp; omega
            have hwt : IntKind.i64.wrap (1 + (t : Int)) = 1 + (t : Int) := IntWalk.i64_in _ ⟨by omega, by omega⟩
            have hwt2 : IntKind.i64.wrap (1 + (k : Int) + (1 + (t : Int))) = 1 + (k : Int) + (1 + (t : Int)) := IntWalk.i64_in _ ⟨by omega, by omega⟩
            go_enter Tryz.func111, Tryz.ntmps111
            go_wp2_with fail
            (with_reducible refine (prefix_v _ (s) true hM).mono ?_); rintro e w1 ⟨rfl, q1⟩
            have bw1 := (brefl w).trans (q1.mono (brefl w).size)
            have lw1 := q1.size
            clear q1
            go_wp2_with fail
            (with_reducible refine (t_digits_x _ (s) (1) (1) (by omega) (by omega) hs ((k : Int)) (by have h9 := hk; omega)).mono ?_); rintro e w2 ⟨rfl, q2⟩
            have bw2 := bw1.trans (q2.mono bw1.size)
            have lw2 := q2.size
            clear q2 bw1
            go_wp2_with fail
            (with_reducible refine (t_digits_x _ (s) ((1 + (k : Int) + 1)) (1 + k + 1) (by omega) (by omega) hs ((t : Int)) (by have h9 := ht; omega)).mono ?_); rintro e w3 ⟨rfl, q3⟩
            have bw3 := bw2.trans (q3.mono bw2.size)
            have lw3 := q3.size
            clear q3 bw2
            go_wp2_with fail
            go_ret
            exact retI (by omega) bw3
  · simp only [Nat.zero_add] at hk hc
    have hM : headM s = false := by rw [headM_at]; simp [ham]
    clear ham
    rcases hc with ⟨hk0, hv0⟩ | ⟨hkp, d, hd, hc⟩
    · subst hv0
      subst hk0
      go_enter Tryz.func111, Tryz.ntmps111
      go_wp2_with fail
      (with_reducible refine (prefix_v _ (s) false hM).mono ?_); rintro e w1 ⟨rfl, q1⟩
      have bw1 := (brefl w).trans (q1.mono (brefl w).size)
      have lw1 := q1.size
      clear q1
      go_wp2_with fail
      (with_reducible refine (t_digits_x _ (s) (0) (0) (by omega) (by omega) hs (0) (by have h9 := hk; omega)).mono ?_); rintro e w2 ⟨rfl, q2⟩
      have bw2 := bw1.trans (q2.mono bw1.size)
      have lw2 := q2.size
      clear q2 bw1
      go_wp2_with fail
      go_ret
      exact retI (by omega) bw2
    · have hle : k ≤ s.length := by have := digN_drop hk hkp; omega
      have hk9 : ((k : Int) == 0) = false := by simp; omega
      have hk8 : ((k : Int) = 0) = False := by simp; omega
      rcases hc with ⟨hd1, hd2, hv9⟩ | ⟨hdd, t, ht, hc⟩
      · have e46 : (((d.toNat : Nat) : Int) == 46) = false := (byte_eq d 46).trans (by simp [hd1])
        have e47 : (((d.toNat : Nat) : Int) == 47) = false := (byte_eq d 47).trans (by simp [hd2])
        clear hd1 hd2
        replace hv9 := hv9.symm
        subst hv9
        rcases Nat.lt_or_ge (k) s.length with hl | hl
        · have hget : ∀ h, (⟨s.toArray⟩ : ByteArray)[k]'h = d := fun h => by rw [← hd]; exact (atB_lt hl).symm
          have et : ((k : Int)).toNat = k := by omega
          have hei : (k : Int) < (s.length : Int) := by omega
          have he0 : (0 : Int) ≤ (k : Int) := by omega
          go_enter Tryz.func111, Tryz.ntmps111
          go_wp2_with fail
          (with_reducible refine (prefix_v _ (s) false hM).mono ?_); rintro e w1 ⟨rfl, q1⟩
          have bw1 := (brefl w).trans (q1.mono (brefl w).size)
          have lw1 := q1.size
          clear q1
          go_wp2_with fail
          (with_reducible refine (t_digits_x _ (s) (0) (0) (by omega) (by omega) hs ((k : Int)) (by have h9 := hk; omega)).mono ?_); rintro e w2 ⟨rfl, q2⟩
          have bw2 := bw1.trans (q2.mono bw1.size)
          have lw2 := q2.size
          clear q2 bw1
          go_wp2_with fail
          go_ret
          exact retI (by omega) bw2
        · have hei : ((k : Int) < (s.length : Int)) = False := by simp; omega
          go_enter Tryz.func111, Tryz.ntmps111
          go_wp2_with fail
          (with_reducible refine (prefix_v _ (s) false hM).mono ?_); rintro e w1 ⟨rfl, q1⟩
          have bw1 := (brefl w).trans (q1.mono (brefl w).size)
          have lw1 := q1.size
          clear q1
          go_wp2_with fail
          (with_reducible refine (t_digits_x _ (s) (0) (0) (by omega) (by omega) hs ((k : Int)) (by have h9 := hk; omega)).mono ?_); rintro e w2 ⟨rfl, q2⟩
          have bw2 := bw1.trans (q2.mono bw1.size)
          have lw2 := q2.size
          clear q2 bw1
          go_wp2_with fail
          go_ret
          exact retI (by omega) bw2
      · have hl : k < s.length := by rcases hdd with e | e <;> exact atB_in hd (by rw [e]; decide)
        have hwe1 : IntKind.i64.wrap ((k : Int) + 1) = (k : Int) + 1 := IntWalk.i64_in _ ⟨by omega, by omega⟩
        have hget : ∀ h, (⟨s.toArray⟩ : ByteArray)[k]'h = d := fun h => by rw [← hd]; exact (atB_lt hl).symm
        have et : ((k : Int)).toNat = k := by omega
        have hei : (k : Int) < (s.length : Int) := by omega
        have he0 : (0 : Int) ≤ (k : Int) := by omega
        rcases hdd with hd46 | hd47
        · have e46 : (((d.toNat : Nat) : Int) == 46) = true := (byte_eq d 46).trans (by simp [hd46])
          clear hd46
          rcases hc with ⟨ht0, hv9⟩ | ⟨htp, hv9⟩
          · replace hv9 := hv9.symm
            subst hv9
            subst ht0
            go_enter Tryz.func111, Tryz.ntmps111
            go_wp2_with fail
            (with_reducible refine (prefix_v _ (s) false hM).mono ?_); rintro e w1 ⟨rfl, q1⟩
            have bw1 := (brefl w).trans (q1.mono (brefl w).size)
            have lw1 := q1.size
            clear q1
            go_wp2_with fail
            (with_reducible refine (t_digits_x _ (s) (0) (0) (by omega) (by omega) hs ((k : Int)) (by have h9 := hk; omega)).mono ?_); rintro e w2 ⟨rfl, q2⟩
            have bw2 := bw1.trans (q2.mono bw1.size)
            have lw2 := q2.size
            clear q2 bw1
            go_wp2_with fail
            (with_reducible refine (t_digits_x _ (s) (((k : Int) + 1)) (k + 1) (by omega) (by omega) hs (0) (by have h9 := ht; omega)).mono ?_); rintro e w3 ⟨rfl, q3⟩
            have bw3 := bw2.trans (q3.mono bw2.size)
            have lw3 := q3.size
            clear q3 bw2
            go_wp2_with fail
            go_ret
            exact retI (by omega) bw3
          · replace hv9 := hv9.symm
            subst hv9
            have ht9 : ((0 : Int) < (t : Int)) = True := by simp; omega
            have htl : k + 1 + t ≤ s.length := by have := digN_drop ht htp; omega
            have hwt : IntKind.i64.wrap (1 + (t : Int)) = 1 + (t : Int) := IntWalk.i64_in _ ⟨by omega, by omega⟩
            have hwt2 : IntKind.i64.wrap ((k : Int) + (1 + (t : Int))) = (k : Int) + (1 + (t : Int)) := IntWalk.i64_in _ ⟨by omega, by omega⟩
            go_enter Tryz.func111, Tryz.ntmps111
            go_wp2_with fail
            (with_reducible refine (prefix_v _ (s) false hM).mono ?_); rintro e w1 ⟨rfl, q1⟩
            have bw1 := (brefl w).trans (q1.mono (brefl w).size)
            have lw1 := q1.size
            clear q1
            go_wp2_with fail
            (with_reducible refine (t_digits_x _ (s) (0) (0) (by omega) (by omega) hs ((k : Int)) (by have h9 := hk; omega)).mono ?_); rintro e w2 ⟨rfl, q2⟩
            have bw2 := bw1.trans (q2.mono bw1.size)
            have lw2 := q2.size
            clear q2 bw1
            go_wp2_with fail
            (with_reducible refine (t_digits_x _ (s) (((k : Int) + 1)) (k + 1) (by omega) (by omega) hs ((t : Int)) (by have h9 := ht; omega)).mono ?_); rintro e w3 ⟨rfl, q3⟩
            have bw3 := bw2.trans (q3.mono bw2.size)
            have lw3 := q3.size
            clear q3 bw2
            go_wp2_with fail
            go_ret
            exact retI (by omega) bw3
        · have e46 : (((d.toNat : Nat) : Int) == 46) = false := (byte_eq d 46).trans (by simp [hd47])
          have e47 : (((d.toNat : Nat) : Int) == 47) = true := (byte_eq d 47).trans (by simp [hd47])
          clear hd47
          rcases hc with ⟨ht0, hv9⟩ | ⟨htp, hv9⟩
          · replace hv9 := hv9.symm
            subst hv9
            subst ht0
            go_enter Tryz.func111, Tryz.ntmps111
            go_wp2_with fail
            (with_reducible refine (prefix_v _ (s) false hM).mono ?_); rintro e w1 ⟨rfl, q1⟩
            have bw1 := (brefl w).trans (q1.mono (brefl w).size)
            have lw1 := q1.size
            clear q1
            go_wp2_with fail
            (with_reducible refine (t_digits_x _ (s) (0) (0) (by omega) (by omega) hs ((k : Int)) (by have h9 := hk; omega)).mono ?_); rintro e w2 ⟨rfl, q2⟩
            have bw2 := bw1.trans (q2.mono bw1.size)
            have lw2 := q2.size
            clear q2 bw1
            go_wp2_with fail
            (with_reducible refine (t_digits_x _ (s) (((k : Int) + 1)) (k + 1) (by omega) (by omega) hs (0) (by have h9 := ht; omega)).mono ?_); rintro e w3 ⟨rfl, q3⟩
            have bw3 := bw2.trans (q3.mono bw2.size)
            have lw3 := q3.size
            clear q3 bw2
            go_wp2_with fail
            go_ret
            exact retI (by omega) bw3
          · replace hv9 := hv9.symm
            subst hv9
            have ht9 : ((0 : Int) < (t : Int)) = True := by simp; omega
            have htl : k + 1 + t ≤ s.length := by have := digN_drop ht htp; omega
            have hwt : IntKind.i64.wrap (1 + (t : Int)) = 1 + (t : Int) := IntWalk.i64_in _ ⟨by omega, by omega⟩
            have hwt2 : IntKind.i64.wrap ((k : Int) + (1 + (t : Int))) = (k : Int) + (1 + (t : Int)) := IntWalk.i64_in _ ⟨by omega, by omega⟩
            go_enter Tryz.func111, Tryz.ntmps111
            go_wp2_with fail
            (with_reducible refine (prefix_v _ (s) false hM).mono ?_); rintro e w1 ⟨rfl, q1⟩
            have bw1 := (brefl w).trans (q1.mono (brefl w).size)
            have lw1 := q1.size
            clear q1
            go_wp2_with fail
            (with_reducible refine (t_digits_x _ (s) (0) (0) (by omega) (by omega) hs ((k : Int)) (by have h9 := hk; omega)).mono ?_); rintro e w2 ⟨rfl, q2⟩
            have bw2 := bw1.trans (q2.mono bw1.size)
            have lw2 := q2.size
            clear q2 bw1
            go_wp2_with fail
            (with_reducible refine (t_digits_x _ (s) (((k : Int) + 1)) (k + 1) (by omega) (by omega) hs ((t : Int)) (by have h9 := ht; omega)).mono ?_); rintro e w3 ⟨rfl, q3⟩
            have bw3 := bw2.trans (q3.mono bw2.size)
            have lw3 := q3.size
            clear q3 bw2
            go_wp2_with fail
            go_ret
            exact retI (by omega) bw3
end Go.Proofs.YtoiijifnfdgfpaaGreatDoor

/- Walks: tokens: the first one. -/
namespace Go.Proofs.YtoiijifnfdgfpaaGreatDoor
open Go Go.RowKit Bn
attribute [local go_sem ↓] Go.wp_at_zero Go.wp_at_succ
theorem badEnd_at (s : List UInt8) (i : Nat) : badEnd (s.drop i) = (isLet (atB s i) || atB s i == 95 || atB s i == 46 || atB s i == 47) := by
  rcases Nat.lt_or_ge i s.length with h | h
  · rw [drop_at h]; rfl
  · rw [List.drop_eq_nil_of_le h, atB_ge h]; rfl
def firstV : First → Value
  | .ok k n => .tuple #[.int .i64 (k : Nat), .int .i64 (n : Nat), .nilIface]
  | .err x => .tuple #[.int .i64 0, .int .i64 0, .iface 63 (.int .i64 (x : Nat))]
theorem first_cases {s : List UInt8} {i : Nat} {f : First} (hi : i < s.length) (hf : firstT (s.drop i) = f) : ∃ c, atB s i = c ∧ ∃ n, wordN (s.drop i) = n ∧ ∃ m, numN (s.drop i) = m ∧ n ≤ s.length - i ∧ m ≤ s.length - i ∧
    ((isSgn c = true ∧ n = 0 ∧ m = 0 ∧ f = .ok 2 1) ∨ (isSgn c = false ∧ 24 < n ∧ f = .err 5) ∨ (isSgn c = false ∧ 0 < n ∧ n ≤ 24 ∧ f = .ok 0 n) ∨
     (isSgn c = false ∧ n = 0 ∧ m = 0 ∧ f = .err 2) ∨ (isSgn c = false ∧ n = 0 ∧ 60 < m ∧ f = .err 4) ∨
     (isSgn c = false ∧ n = 0 ∧ 0 < m ∧ m ≤ 60 ∧ ∃ d, atB s (i + m) = d ∧ ((isLet d = true ∧ f = .err 2) ∨ (isLet d = false ∧ d = 95 ∧ f = .err 2) ∨ (isLet d = false ∧ d = 46 ∧ f = .err 2) ∨ (isLet d = false ∧ d = 47 ∧ f = .err 2) ∨
       (isLet d = false ∧ d ≠ 95 ∧ d ≠ 46 ∧ d ≠ 47 ∧ f = .ok 1 m)))) := by
  have h1 := wordN_le (s.drop i)
  have h2 := numN_le (s.drop i)
  rw [List.length_drop] at h1 h2
  refine ⟨_, rfl, _, rfl, _, rfl, h1, h2, ?_⟩
  subst hf
  by_cases hs : isSgn (atB s i) = true
  · left
    have e0 : wordN (s.drop i) = 0 := wordN_no (by
      rw [isSgn_nat] at hs
      rw [isLet_nat]; simp at hs ⊢; omega)
    have e1 : numN (s.drop i) = 0 := by
      obtain ⟨m, k, hm, hk, hc⟩ := num_cases (s := s) (i := i) rfl
      rw [isSgn_nat] at hs
      rcases hm with ⟨_, h⟩ | ⟨rfl, h⟩
      · rw [h] at hs; exact absurd hs (by decide)
      · rcases hc with ⟨_, h⟩ | ⟨h, _⟩
        · exact h
        · exfalso
          rw [Nat.add_zero, drop_at hi] at hk
          unfold digN at hk
          rw [List.takeWhile_cons, if_neg (by rw [isDg_nat]; simp at hs ⊢; omega)] at hk
          simp at hk; omega
    refine ⟨hs, e0, e1, ?_⟩
    rw [drop_at hi, firstT, if_pos hs]
  · have hs : isSgn (atB s i) = false := by simpa using hs
    right
    have e : firstT (s.drop i) = (if 0 < wordN (s.drop i) then (if 24 < wordN (s.drop i) then .err 5 else .ok 0 (wordN (s.drop i)))
      else if numN (s.drop i) = 0 then .err 2 else if 60 < numN (s.drop i) then .err 4 else if badEnd ((s.drop i).drop (numN (s.drop i))) then .err 2 else .ok 1 (numN (s.drop i))) := by
      conv => lhs; rw [drop_at hi]
      rw [firstT, if_neg (by rw [hs]; decide), ← drop_at hi]
    rw [e, List.drop_drop]
    by_cases a : 0 < wordN (s.drop i)
    · rw [if_pos a]
      by_cases b : 24 < wordN (s.drop i)
      · rw [if_pos b]; exact .inl ⟨hs, b, rfl⟩
      · rw [if_neg b]; exact .inr (.inl ⟨hs, a, by omega, rfl⟩)
    · rw [if_neg a]
      have a : wordN (s.drop i) = 0 := by omega
      right; right
      by_cases b : numN (s.drop i) = 0
      · rw [if_pos b]; exact .inl ⟨hs, a, b, rfl⟩
      · rw [if_neg b]
        by_cases b2 : 60 < numN (s.drop i)
        · rw [if_pos b2]; exact .inr (.inl ⟨hs, a, b2, rfl⟩)
        · rw [if_neg b2]
          refine .inr (.inr ⟨hs, a, by omega, by omega, _, rfl, ?_⟩)
          rw [badEnd_at]
          generalize atB s (i + numN (s.drop i)) = d
          cases hl : isLet d
          · by_cases c1 : d = 95
            · subst c1; exact .inr (.inl ⟨rfl, rfl, rfl⟩)
            · by_cases c2 : d = 46
              · subst c2; exact .inr (.inr (.inl ⟨rfl, rfl, rfl⟩))
              · by_cases c3 : d = 47
                · subst c3; exact .inr (.inr (.inr (.inl ⟨rfl, rfl, rfl⟩)))
                · refine .inr (.inr (.inr (.inr ⟨rfl, c1, c2, c3, ?_⟩)))
                  rw [beq_eq_false_iff_ne.2 c1, beq_eq_false_iff_ne.2 c2, beq_eq_false_iff_ne.2 c3]; rfl
          · exact .inl ⟨rfl, rfl⟩
theorem sgn_v (w : World) (c : UInt8) (v : Bool) (hv : isSgn c = v) : Calls Tryz.prog 110 #[.string ⟨#[123, 125, 59, 46]⟩, .int .u8 (c.toNat : Nat)] w (fun e w' => ∃ x : Int, decide (0 ≤ x) = v ∧ e = .returned (.int .i64 x) ∧ Below w.heap.size w w') := by
  refine (Tryz.strings_IndexByte ⟨#[123, 125, 59, 46]⟩ (c.toNat : Nat) w).mono fun e w' ⟨he, hw⟩ => ⟨_, ?_, he, hw ▸ brefl _⟩
  have ec : ((c.toNat : Nat) : Int).toNat.toUInt8 = c := by simp
  rw [ec, ← hv]
  unfold isSgn
  show decide (0 ≤ Lib.indexByte [123, 125, 59, 46] c) = _
  unfold Lib.indexByte Lib.indexByte Lib.indexByte Lib.indexByte Lib.indexByte
  by_cases h1 : c = 123
  · subst h1; rfl
  · by_cases h2 : c = 125
    · subst h2; rfl
    · by_cases h3 : c = 59
      · subst h3; rfl
      · by_cases h4 : c = 46
        · subst h4; rfl
        · have g : ∀ {a : UInt8}, c ≠ a → (a == c) = false := fun h => beq_eq_false_iff_ne.2 (fun e => h e.symm)
          rw [beq_eq_false_iff_ne.2 h1, beq_eq_false_iff_ne.2 h2, beq_eq_false_iff_ne.2 h3, beq_eq_false_iff_ne.2 h4]
          simp [g h1, g h2, g h3, g h4]
theorem t_first (w : World) (s : List UInt8) (hp : 0 < s.length) (hs : s.length < 4611686018427387904) (f : First) (hf : firstT s = f) : Calls Tryz.prog 64 #[strV s] w (RetV w (firstV f)) := by
  have hszs := size_v s
  obtain ⟨c, hc0, n, hwn, m, hnm, hnl, hml, hcs⟩ := first_cases (s := s) (i := 0) hp hf
  clear hf
  have hwn : wordN s = n := hwn
  have hnm : numN s = m := hnm
  have hget0 : ∀ h, (⟨s.toArray⟩ : ByteArray)[0]'h = c := fun h => by rw [← hc0]; exact (atB_lt hp).symm
  have hp1 : (0 : Int) < (s.length : Int) := by omega
  clear hc0
  rcases hcs with ⟨hsg, hn0, hm0, rfl⟩ | ⟨hsg, hn1, rfl⟩ | ⟨hsg, hn1, hn2, rfl⟩ | ⟨hsg, hn0, hm0, rfl⟩ | ⟨hsg, hn0, hm1, rfl⟩ | ⟨hsg, hn0, hm1, hm2, d, hd, hc⟩
  · go_enter Tryz.func64, Tryz.ntmps64
    go_wp2_with fail
    (with_reducible refine (sgn_v _ c _ hsg).mono ?_); rintro e w1 ⟨x, hx, rfl, hb1⟩
    have hx9 : (0 ≤ x) = True := by simpa using hx
    clear hx
    have bw1 := hb1
    go_wp2_with fail
    refine bodyPost_ret (v := .tuple #[.int .i64 2, .int .i64 1, .nilIface]) (by simp [results, Tryz.results64, go_sem, *] <;> trivial) rfl ?_
    exact ⟨rfl, bw1⟩
  · have hgt : ((0 : Int) < (n : Int)) = True := by simp; omega
    have hgt2 : ((24 : Int) < (n : Int)) = True := by simp; omega
    go_enter Tryz.func64, Tryz.ntmps64
    go_wp2_with fail
    (with_reducible refine (sgn_v _ c _ hsg).mono ?_); rintro e w1 ⟨x, hx, rfl, hb1⟩
    have hx9 : (0 ≤ x) = False := by simpa using hx
    clear hx
    have bw1 := hb1
    go_wp2_with fail
    (with_reducible refine (t_word _ (s) hs (n) hwn).mono ?_); rintro e w2 ⟨rfl, q2⟩
    have bw2 := bw1.trans (q2.mono bw1.size)
    have lw2 := q2.size
    clear q2
    go_wp2_with fail
    refine bodyPost_ret (v := .tuple #[.int .i64 0, .int .i64 0, .iface 63 (.int .i64 5)]) (by simp [results, Tryz.results64, go_sem, *] <;> trivial) rfl ?_
    exact ⟨rfl, bw2⟩
  · have hgt : ((0 : Int) < (n : Int)) = True := by simp; omega
    have hgt2 : ((24 : Int) < (n : Int)) = False := by simp; omega
    go_enter Tryz.func64, Tryz.ntmps64
    go_wp2_with fail
    (with_reducible refine (sgn_v _ c _ hsg).mono ?_); rintro e w1 ⟨x, hx, rfl, hb1⟩
    have hx9 : (0 ≤ x) = False := by simpa using hx
    clear hx
    have bw1 := hb1
    go_wp2_with fail
    (with_reducible refine (t_word _ (s) hs (n) hwn).mono ?_); rintro e w2 ⟨rfl, q2⟩
    have bw2 := bw1.trans (q2.mono bw1.size)
    have lw2 := q2.size
    clear q2
    go_wp2_with fail
    refine bodyPost_ret (v := .tuple #[.int .i64 0, .int .i64 n, .nilIface]) (by simp [results, Tryz.results64, go_sem, *] <;> trivial) rfl ?_
    exact ⟨rfl, bw2⟩
  · subst hn0
    subst hm0
    go_enter Tryz.func64, Tryz.ntmps64
    go_wp2_with fail
    (with_reducible refine (sgn_v _ c _ hsg).mono ?_); rintro e w1 ⟨x, hx, rfl, hb1⟩
    have hx9 : (0 ≤ x) = False := by simpa using hx
    clear hx
    have bw1 := hb1
    go_wp2_with fail
    (with_reducible refine (t_word _ (s) hs (0) hwn).mono ?_); rintro e w2 ⟨rfl, q2⟩
    have bw2 := bw1.trans (q2.mono bw1.size)
    have lw2 := q2.size
    clear q2
    go_wp2_with fail
    (with_reducible refine (t_number _ (s) hs (0) hnm).mono ?_); rintro e w3 ⟨rfl, q3⟩
    have bw3 := bw2.trans (q3.mono bw2.size)
    have lw3 := q3.size
    clear q3 bw2
    go_wp2_with fail
    refine bodyPost_ret (v := .tuple #[.int .i64 0, .int .i64 0, .iface 63 (.int .i64 2)]) (by simp [results, Tryz.results64, go_sem, *] <;> trivial) rfl ?_
    exact ⟨rfl, bw3⟩
  · subst hn0
    have hm9 : ((m : Int) == 0) = false := by simp; omega
    have hg2 : ((60 : Int) < (m : Int)) = True := by simp; omega
    go_enter Tryz.func64, Tryz.ntmps64
    go_wp2_with fail
    (with_reducible refine (sgn_v _ c _ hsg).mono ?_); rintro e w1 ⟨x, hx, rfl, hb1⟩
    have hx9 : (0 ≤ x) = False := by simpa using hx
    clear hx
    have bw1 := hb1
    go_wp2_with fail
    (with_reducible refine (t_word _ (s) hs (0) hwn).mono ?_); rintro e w2 ⟨rfl, q2⟩
    have bw2 := bw1.trans (q2.mono bw1.size)
    have lw2 := q2.size
    clear q2
    go_wp2_with fail
    (with_reducible refine (t_number _ (s) hs (m) hnm).mono ?_); rintro e w3 ⟨rfl, q3⟩
    have bw3 := bw2.trans (q3.mono bw2.size)
    have lw3 := q3.size
    clear q3 bw2
    go_wp2_with fail
    refine bodyPost_ret (v := .tuple #[.int .i64 0, .int .i64 0, .iface 63 (.int .i64 4)]) (by simp [results, Tryz.results64, go_sem, *] <;> trivial) rfl ?_
    exact ⟨rfl, bw3⟩
  · subst hn0
    have hm9 : ((m : Int) == 0) = false := by simp; omega
    have hg2 : ((60 : Int) < (m : Int)) = False := by simp; omega
    rw [Nat.zero_add] at hd
    rcases Nat.lt_or_ge m s.length with hl9 | hl9
    · have hget : ∀ h, (⟨s.toArray⟩ : ByteArray)[m]'h = d := fun h => by rw [← hd]; exact (atB_lt hl9).symm
      have hml1 : ((m : Int) < (s.length : Int)) = True := by simp; omega
      have hml2 : m < s.length := hl9
      clear hd
      rcases hc with ⟨hl, rfl⟩ | ⟨hl, h95, rfl⟩ | ⟨hl, h46, rfl⟩ | ⟨hl, h47, rfl⟩ | ⟨hl, h95, h46, h47, rfl⟩
      · skip
        go_enter Tryz.func64, Tryz.ntmps64
        go_wp2_with fail
        (with_reducible refine (sgn_v _ c _ hsg).mono ?_); rintro e w1 ⟨x, hx, rfl, hb1⟩
        have hx9 : (0 ≤ x) = False := by simpa using hx
        clear hx
        have bw1 := hb1
        go_wp2_with fail
        (with_reducible refine (t_word _ (s) hs (0) hwn).mono ?_); rintro e w2 ⟨rfl, q2⟩
        have bw2 := bw1.trans (q2.mono bw1.size)
        have lw2 := q2.size
        clear q2
        go_wp2_with fail
        (with_reducible refine (t_number _ (s) hs (m) hnm).mono ?_); rintro e w3 ⟨rfl, q3⟩
        have bw3 := bw2.trans (q3.mono bw2.size)
        have lw3 := q3.size
        clear q3 bw2
        go_wp2_with fail
        (with_reducible refine (t_letter _ d true hl).mono ?_); rintro e w4 ⟨rfl, q4⟩
        have bw4 := bw3.trans (q4.mono bw3.size)
        have lw4 := q4.size
        clear q4 bw3
        go_wp2_with fail
        refine bodyPost_ret (v := .tuple #[.int .i64 0, .int .i64 0, .iface 63 (.int .i64 2)]) (by simp [results, Tryz.results64, go_sem, *] <;> trivial) rfl ?_
        exact ⟨rfl, bw4⟩
      · have e95 : (((d.toNat : Nat) : Int) == 95) = true := (byte_eq d 95).trans (by simp [h95])
        clear h95
        go_enter Tryz.func64, Tryz.ntmps64
        go_wp2_with fail
        (with_reducible refine (sgn_v _ c _ hsg).mono ?_); rintro e w1 ⟨x, hx, rfl, hb1⟩
        have hx9 : (0 ≤ x) = False := by simpa using hx
        clear hx
        have bw1 := hb1
        go_wp2_with fail
        (with_reducible refine (t_word _ (s) hs (0) hwn).mono ?_); rintro e w2 ⟨rfl, q2⟩
        have bw2 := bw1.trans (q2.mono bw1.size)
        have lw2 := q2.size
        clear q2
        go_wp2_with fail
        (with_reducible refine (t_number _ (s) hs (m) hnm).mono ?_); rintro e w3 ⟨rfl, q3⟩
        have bw3 := bw2.trans (q3.mono bw2.size)
        have lw3 := q3.size
        clear q3 bw2
        go_wp2_with fail
        (with_reducible refine (t_letter _ d false hl).mono ?_); rintro e w4 ⟨rfl, q4⟩
        have bw4 := bw3.trans (q4.mono bw3.size)
        have lw4 := q4.size
        clear q4 bw3
        go_wp2_with fail
        refine bodyPost_ret (v := .tuple #[.int .i64 0, .int .i64 0, .iface 63 (.int .i64 2)]) (by simp [results, Tryz.results64, go_sem, *] <;> trivial) rfl ?_
        exact ⟨rfl, bw4⟩
      · have e95 : (((d.toNat : Nat) : Int) == 95) = false := (byte_eq d 95).trans (by simp [h46])
        have e46 : (((d.toNat : Nat) : Int) == 46) = true := (byte_eq d 46).trans (by simp [h46])
        clear h46
        go_enter Tryz.func64, Tryz.ntmps64
        go_wp2_with fail
        (with_reducible refine (sgn_v _ c _ hsg).mono ?_); rintro e w1 ⟨x, hx, rfl, hb1⟩
        have hx9 : (0 ≤ x) = False := by simpa using hx
        clear hx
        have bw1 := hb1
        go_wp2_with fail
        (with_reducible refine (t_word _ (s) hs (0) hwn).mono ?_); rintro e w2 ⟨rfl, q2⟩
        have bw2 := bw1.trans (q2.mono bw1.size)
        have lw2 := q2.size
        clear q2
        go_wp2_with fail
        (with_reducible refine (t_number _ (s) hs (m) hnm).mono ?_); rintro e w3 ⟨rfl, q3⟩
        have bw3 := bw2.trans (q3.mono bw2.size)
        have lw3 := q3.size
        clear q3 bw2
        go_wp2_with fail
        (with_reducible refine (t_letter _ d false hl).mono ?_); rintro e w4 ⟨rfl, q4⟩
        have bw4 := bw3.trans (q4.mono bw3.size)
        have lw4 := q4.size
        clear q4 bw3
        go_wp2_with fail
        refine bodyPost_ret (v := .tuple #[.int .i64 0, .int .i64 0, .iface 63 (.int .i64 2)]) (by simp [results, Tryz.results64, go_sem, *] <;> trivial) rfl ?_
        exact ⟨rfl, bw4⟩
      · have e95 : (((d.toNat : Nat) : Int) == 95) = false := (byte_eq d 95).trans (by simp [h47])
        have e46 : (((d.toNat : Nat) : Int) == 46) = false := (byte_eq d 46).trans (by simp [h47])
        have e47 : (((d.toNat : Nat) : Int) == 47) = true := (byte_eq d 47).trans (by simp [h47])
        clear h47
        go_enter Tryz.func64, Tryz.ntmps64
        go_wp2_with fail
        (with_reducible refine (sgn_v _ c _ hsg).mono ?_); rintro e w1 ⟨x, hx, rfl, hb1⟩
        have hx9 : (0 ≤ x) = False := by simpa using hx
        clear hx
        have bw1 := hb1
        go_wp2_with fail
        (with_reducible refine (t_word _ (s) hs (0) hwn).mono ?_); rintro e w2 ⟨rfl, q2⟩
        have bw2 := bw1.trans (q2.mono bw1.size)
        have lw2 := q2.size
        clear q2
        go_wp2_with fail
        (with_reducible refine (t_number _ (s) hs (m) hnm).mono ?_); rintro e w3 ⟨rfl, q3⟩
        have bw3 := bw2.trans (q3.mono bw2.size)
        have lw3 := q3.size
        clear q3 bw2
        go_wp2_with fail
        (with_reducible refine (t_letter _ d false hl).mono ?_); rintro e w4 ⟨rfl, q4⟩
        have bw4 := bw3.trans (q4.mono bw3.size)
        have lw4 := q4.size
        clear q4 bw3
        go_wp2_with fail
        refine bodyPost_ret (v := .tuple #[.int .i64 0, .int .i64 0, .iface 63 (.int .i64 2)]) (by simp [results, Tryz.results64, go_sem, *] <;> trivial) rfl ?_
        exact ⟨rfl, bw4⟩
      · have e95 : (((d.toNat : Nat) : Int) == 95) = false := (byte_eq d 95).trans (by simp [h95])
        have e46 : (((d.toNat : Nat) : Int) == 46) = false := (byte_eq d 46).trans (by simp [h46])
        have e47 : (((d.toNat : Nat) : Int) == 47) = false := (byte_eq d 47).trans (by simp [h47])
        clear h95 h46 h47
        go_enter Tryz.func64, Tryz.ntmps64
        go_wp2_with fail
        (with_reducible refine (sgn_v _ c _ hsg).mono ?_); rintro e w1 ⟨x, hx, rfl, hb1⟩
        have hx9 : (0 ≤ x) = False := by simpa using hx
        clear hx
        have bw1 := hb1
        go_wp2_with fail
        (with_reducible refine (t_word _ (s) hs (0) hwn).mono ?_); rintro e w2 ⟨rfl, q2⟩
        have bw2 := bw1.trans (q2.mono bw1.size)
        have lw2 := q2.size
        clear q2
        go_wp2_with fail
        (with_reducible refine (t_number _ (s) hs (m) hnm).mono ?_); rintro e w3 ⟨rfl, q3⟩
        have bw3 := bw2.trans (q3.mono bw2.size)
        have lw3 := q3.size
        clear q3 bw2
        go_wp2_with fail
        (with_reducible refine (t_letter _ d false hl).mono ?_); rintro e w4 ⟨rfl, q4⟩
        have bw4 := bw3.trans (q4.mono bw3.size)
        have lw4 := q4.size
        clear q4 bw3
        go_wp2_with fail
        refine bodyPost_ret (v := .tuple #[.int .i64 1, .int .i64 m, .nilIface]) (by simp [results, Tryz.results64, go_sem, *] <;> trivial) rfl ?_
        exact ⟨rfl, bw4⟩
    · have hml1 : ((m : Int) < (s.length : Int)) = False := by simp; omega
      have hd0 : d = 0 := by rw [← hd]; exact atB_ge hl9
      subst hd0
      clear hd
      rcases hc with ⟨hl, rfl⟩ | ⟨hl, h95, rfl⟩ | ⟨hl, h46, rfl⟩ | ⟨hl, h47, rfl⟩ | ⟨hl, h95, h46, h47, rfl⟩
      · exact absurd hl (by decide)
      · exact absurd h95 (by decide)
      · exact absurd h46 (by decide)
      · exact absurd h47 (by decide)
      · clear h95 h46 h47 hl
        go_enter Tryz.func64, Tryz.ntmps64
        go_wp2_with fail
        (with_reducible refine (sgn_v _ c _ hsg).mono ?_); rintro e w1 ⟨x, hx, rfl, hb1⟩
        have hx9 : (0 ≤ x) = False := by simpa using hx
        clear hx
        have bw1 := hb1
        go_wp2_with fail
        (with_reducible refine (t_word _ (s) hs (0) hwn).mono ?_); rintro e w2 ⟨rfl, q2⟩
        have bw2 := bw1.trans (q2.mono bw1.size)
        have lw2 := q2.size
        clear q2
        go_wp2_with fail
        (with_reducible refine (t_number _ (s) hs (m) hnm).mono ?_); rintro e w3 ⟨rfl, q3⟩
        have bw3 := bw2.trans (q3.mono bw2.size)
        have lw3 := q3.size
        clear q3 bw2
        go_wp2_with fail
        refine bodyPost_ret (v := .tuple #[.int .i64 1, .int .i64 m, .nilIface]) (by simp [results, Tryz.results64, go_sem, *] <;> trivial) rfl ?_
        exact ⟨rfl, bw3⟩
end Go.Proofs.YtoiijifnfdgfpaaGreatDoor

/- Walks: tokens: Split. -/
namespace Go.Proofs.YtoiijifnfdgfpaaGreatDoor
open Go Go.RowKit Bn
attribute [local go_sem ↓] Go.wp_at_zero Go.wp_at_succ
def tokC (t : Tkn) : List Value := [.int .i64 (t.kind : Nat), strV t.text, .int .i64 (t.line : Nat), .int .i64 (t.col : Nat)]
def tokCs (l : List Tkn) : List Value := l.flatMap tokC
theorem tokCs_snoc (l : List Tkn) (t : Tkn) : tokCs (l ++ [t]) = tokCs l ++ tokC t := by simp [tokCs]
theorem tokCs_len (l : List Tkn) : (tokCs l).length = l.length * 4 := by
  induction l with
  | nil => rfl
  | cons t l ih =>
    have : tokCs (t :: l) = tokC t ++ tokCs l := rfl
    rw [this, List.length_append, ih, List.length_cons]
    show 4 + _ = _
    omega
def TkS (w : World) (A : Option Addr) (n c : Nat) (l : List Tkn) : Prop := l.length = n ∧ ((n = 0 ∧ A = none ∧ c = 0) ∨ ∃ g, A = some ⟨g, 0, none⟩ ∧ n ≤ c ∧ ∀ i v, (tokCs l)[i]? = some v → w.cell? ⟨g, i, none⟩ = some v)
theorem TkS.belw {w w' : World} {A : Option Addr} {n c : Nat} {l : List Tkn} (h : TkS w A n c l) (hb : Below w.heap.size w w') : TkS w' A n c l := by
  refine ⟨h.1, ?_⟩
  rcases h.2 with h | ⟨g, e, hc, h⟩
  · exact .inl h
  · exact .inr ⟨g, e, hc, fun i v hv => (hb.cell (p := ⟨g, i, none⟩) (World.block_lt_of_cell? w _ (h i v hv))).trans (h i v hv)⟩
theorem TkS.nil (w : World) : TkS w none 0 0 [] := ⟨rfl, .inl ⟨rfl, rfl, rfl⟩⟩
theorem TkS.of_own {w : World} {base : Nat} {e : TypeId} {v : Value} {l : List Tkn} (h : w.ownsRow base e 4 v l.length (tokCs l)) : ∃ A c, v = .slice A l.length c ∧ TkS w A l.length c l := by
  rcases h.2 with ⟨rfl, h0⟩ | ⟨g, cap, cur, rfl, hb, hg, hn, hc, hs, ht⟩
  · exact ⟨none, 0, by rw [h0], rfl, .inl ⟨h0, rfl, rfl⟩⟩
  · refine ⟨_, _, rfl, rfl, .inr ⟨g, rfl, hn, fun i v hv => ?_⟩⟩
    rw [cell_of_row w g i cur e (0, 0) hg]
    rw [← ht, List.getElem?_take] at hv
    split at hv
    · simpa using hv
    · cases hv
theorem own_below {w w' : World} {base : Nat} {e : TypeId} {size : Nat} {v : Value} {n : Nat} {xs : List Value} (h : w.ownsRow base e size v n xs) (hb : Below w.heap.size w w') : w'.ownsRow base e size v n xs := by
  refine ⟨h.1, ?_⟩
  rcases h.2 with h | ⟨g, cap, cur, hv, hb1, hg, rest⟩
  · exact .inl h
  · exact .inr ⟨g, cap, cur, hv, hb1, (hb.block g (lt_of_block hg)).trans hg, rest⟩
def pre (d : List Tkn) : Toks → Toks
  | .ok l => .ok (d ++ l)
  | .err x => .err x
theorem pre_nil (x : Toks) : pre [] x = x := by cases x <;> rfl
theorem pre_push (d : List Tkn) (t : Tkn) (x : Toks) : pre d (Toks.push t x) = pre (d ++ [t]) x := by cases x <;> simp [pre, Toks.push]
inductive SplitOut (s : List UInt8) (x : Int) (l : List Tkn) : Prop
  | big (h : 65536 < s.length) (hx : x = 4) (hl : l = [])
  | ok (h : s.length ≤ 65536) (ht : tokens s = .ok l) (hx : x = 0)
  | err (n : Nat) (h : s.length ≤ 65536) (ht : tokens s = .err n) (hx : x = (n : Int)) (hl : l = [])
theorem SplitOut.uniq {s : List UInt8} {x y : Int} {l m : List Tkn} (h : SplitOut s x l) (h' : SplitOut s y m) : x = y ∧ l = m := by
  rcases h with ⟨a, b, c⟩ | ⟨a, b, c⟩ | ⟨n, a, b, c, d⟩ <;> rcases h' with ⟨a', b', c'⟩ | ⟨a', b', c'⟩ | ⟨n', a', b', c', d'⟩ <;> first
    | omega
    | exact ⟨by rw [b, b'], by rw [c, c']⟩
    | (rw [b] at b'; injection b' with e; exact ⟨by rw [c, c'], e⟩)
    | (rw [b] at b'; cases b'; done)
    | (rw [b] at b'; injection b' with e; exact ⟨by rw [c, c', e], by rw [d, d']⟩)
def RetTks (w : World) (ev : Value) (l : List Tkn) (e : Ending) (w' : World) : Prop := ∃ A n c, e = .returned (.tuple #[.slice A n c, ev]) ∧ TkS w' A n c l ∧ Below w.heap.size w w'
def RetSp (ev : Int → Value) (w : World) (s : List UInt8) (e : Ending) (w' : World) : Prop := ∃ x l, SplitOut s x l ∧ RetTks w (ev x) l e w'
theorem info_tok : (Tryz.prog.info? 48).map (fun i => (i.zero, i.size, i.bytes)) = some (some (.agg #[.int .i64 0, .string ⟨#[]⟩, .int .i64 0, .int .i64 0]), 4, 40) := by kernel_rfl
theorem comN_step {s : List UInt8} {j : Nat} (hl : j < s.length) (h : atB s j ≠ 10) : comN (s.drop j) = 1 + comN (s.drop (j + 1)) := by
  rw [drop_at hl]
  unfold comN
  rw [List.takeWhile_cons, if_pos (by simpa using h), List.length_cons]; omega
theorem comN_stop {s : List UInt8} {j : Nat} (h : s.length ≤ j ∨ atB s j = 10) : comN (s.drop j) = 0 := by
  rcases Nat.lt_or_ge j s.length with hl | hl
  · rw [drop_at hl]
    unfold comN
    rcases h with h | h
    · omega
    · rw [List.takeWhile_cons, if_neg (by simp [h])]; rfl
  · rw [List.drop_eq_nil_of_le hl]; rfl
theorem tk_com_at {s : List UInt8} {i : Nat} (hl : i < s.length) (h : atB s i = 37) (line col : Nat) : 0 < comN (s.drop i) ∧ tk (s.drop i) line col = tk (s.drop (i + comN (s.drop i))) line (col + comN (s.drop i)) := by
  have e := drop_at hl
  rw [h] at e
  refine ⟨by rw [e]; exact comN_pos, ?_⟩
  conv => lhs; rw [e]
  rw [tk_com, ← e, List.drop_drop]
theorem tk_line_at {s : List UInt8} {i : Nat} (hl : i < s.length) (h : atB s i = 10) (line col : Nat) : tk (s.drop i) line col = tk (s.drop (i + 1)) (line + 1) 1 := by rw [drop_at hl, h, tk_line]
theorem tk_blank_at {s : List UInt8} {i : Nat} (hl : i < s.length) (h : isBlk (atB s i) = true) (line col : Nat) : tk (s.drop i) line col = tk (s.drop (i + 1)) line (col + 1) := by rw [drop_at hl, tk_blank h]
theorem tk_tok_at {s : List UInt8} {i k n : Nat} (hl : i < s.length) (h : firstT (s.drop i) = .ok k n) (line col : Nat) : tk (s.drop i) line col = (tk (s.drop (i + n)) line (col + n)).push ⟨k, (s.drop i).take n, line, col⟩ := by
  have e := drop_at hl
  rw [e] at h ⊢
  rw [tk_tok h, ← e, List.drop_drop]
theorem tk_err_at {s : List UInt8} {i x : Nat} (hl : i < s.length) (h : firstT (s.drop i) = .err x) (h1 : atB s i ≠ 10) (h2 : isBlk (atB s i) = false) (h3 : atB s i ≠ 37) (line col : Nat) : tk (s.drop i) line col = .err x := by
  rw [drop_at hl] at h ⊢
  exact tk_err h h1 h2 h3 line col
theorem t_first_ok (w : World) (s : List UInt8) (hp : 0 < s.length) (hs : s.length < 4611686018427387904) (k n : Nat) (hf : firstT s = .ok k n) : Calls Tryz.prog 64 #[strV s] w (RetV w (.tuple #[.int .i64 (k : Nat), .int .i64 (n : Nat), .nilIface])) := t_first w s hp hs _ hf
theorem t_first_err (w : World) (s : List UInt8) (hp : 0 < s.length) (hs : s.length < 4611686018427387904) (x : Nat) (hf : firstT s = .err x) : Calls Tryz.prog 64 #[strV s] w (RetV w (.tuple #[.int .i64 0, .int .i64 0, .iface 63 (.int .i64 (x : Nat))])) := t_first w s hp hs _ hf
theorem firstT_errN {r : List UInt8} {x : Nat} (h : firstT r = .err x) : 0 < x := by
  unfold firstT at h
  split at h
  · injection h with h; omega
  · split at h
    · cases h
    · split at h
      · split at h
        · injection h with h; omega
        · cases h
      · split at h
        · injection h with h; omega
        · split at h
          · injection h with h; omega
          · split at h
            · injection h with h; omega
            · cases h
theorem isBlk_3 {c : UInt8} (h : isBlk c = true) : c = 32 ∨ c = 9 ∨ c = 13 := by
  unfold isBlk at h
  simpa [or_assoc] using h
theorem t_split (w : World) (s : List UInt8) : Calls Tryz.prog 23 #[strV s] w (RetSp (fun x => errV x) w s) := by
 have hszs := size_v s
 obtain ⟨i0, hi0, hz0, hz1, hz2⟩ := info_parts info_tok
 rcases Nat.lt_or_ge 65536 s.length with hbig | hsm
 ·have hlen : ((65536 : Int) < (s.length : Int)) = True := by simp; omega
  clear hi0 hz0 hz1 hz2
  go_enter Tryz.func23, Tryz.ntmps23
  go_wp2_with fail
  refine bodyPost_ret (v := .tuple #[.slice none 0 0, .iface 63 (.int .i64 4)]) (by simp [results, Tryz.results23, go_sem, *] <;> trivial) rfl ?_
  exact ⟨4, [], .big hbig rfl rfl, none, 0, 0, rfl, TkS.nil _, brefl w⟩
 have hlen : ((65536 : Int) < (s.length : Int)) = False := by simp; omega
 have hs : s.length < 4611686018427387904 := by omega
 have HI := Lib.hid (And.intro hi0 (And.intro hz0 (And.intro hz1 hz2)))
 clear hi0 hz0 hz1 hz2
 go_enter Tryz.func23, Tryz.ntmps23
 go_wp2_with fail
 go_loopw [4, 5, 6, 7] (fun ov lv sv iv wr => ∃ (done : List Tkn) (i line st : Nat), lv = .int .i64 (line : Nat) ∧ sv = .int .i64 (st : Nat) ∧ iv = .int .i64 (i : Nat) ∧ i ≤ s.length ∧ st ≤ i ∧ line ≤ i + 1 ∧ done.length ≤ i ∧ Hid (tokens s = pre done (tk (s.drop i) line (i - st + 1))) ∧ wr.ownsRow w.heap.size 48 4 ov done.length (tokCs done) ∧ Below w.heap.size w wr) (fun _ _ _ iv _ => s.length - (intOf iv).toNat)
 case atStart => exact ⟨[], 0, 1, 0, rfl, rfl, rfl, Nat.zero_le _, Nat.le_refl _, by omega, Nat.le_refl _, Lib.hid (by rw [pre_nil]; rfl), ⟨rfl, .inl ⟨rfl, rfl⟩⟩, brefl w⟩
 case round =>
  obtain ⟨done, i, line, st, rfl, rfl, rfl, hi, hst, hln, hdn, hT, hown, hbel⟩ := hrel
  have HO := Lib.hid hown
  clear hown
  rcases Nat.lt_or_ge i s.length with hl | hl
  ·have hi1 : ((i : Int) < (s.length : Int)) = True := by simp; omega
   have hlts : i < s.length := hl
   obtain ⟨c, hc⟩ : ∃ c, atB s i = c := ⟨_, rfl⟩
   have hget : ∀ h, (⟨s.toArray⟩ : ByteArray)[i]'h = c := fun h => by rw [← hc]; exact (atB_lt hl).symm
   by_cases h10 : c = 10
   ·have q10 : (((c.toNat : Nat) : Int) == 10) = true := (byte_eq c 10).trans (by simp [h10])
    have hT2 := tk_line_at hl (by rw [hc]; exact h10) line (i - st + 1)
    have h10b : c ≠ 37 := by rw [h10]; decide
    go_wp2_with fail
    go_roundw
    case rel => exact ⟨done, i + 1, line + 1, i + 1, by go_num, by go_num, by go_num, by omega, by omega, by omega, by omega, Lib.hid (by rw [hT.out, hT2]; congr 2; omega), HO.out, hbel⟩
    case measure => simp [intOf]; omega
   have q10 : (((c.toNat : Nat) : Int) == 10) = false := (byte_eq c 10).trans (by simp [h10])
   by_cases hbk : isBlk c = true
   ·have hT2 := tk_blank_at hl (by rw [hc]; exact hbk) line (i - st + 1)
    rcases isBlk_3 hbk with h3 | h3 | h3
    ·have q32 : (((c.toNat : Nat) : Int) == 32) = true := (byte_eq c 32).trans (by simp [h3])
     clear h3
     go_wp2_with fail
     go_roundw
     case rel => exact ⟨done, i + 1, line, st, rfl, rfl, by go_num, by omega, by omega, by omega, by omega, Lib.hid (by rw [hT.out, hT2]; congr 2; omega), HO.out, hbel⟩
     case measure => simp [intOf]; omega
    ·have q32 : (((c.toNat : Nat) : Int) == 32) = false := (byte_eq c 32).trans (by simp [h3])
     have q9 : (((c.toNat : Nat) : Int) == 9) = true := (byte_eq c 9).trans (by simp [h3])
     clear h3
     go_wp2_with fail
     go_roundw
     case rel => exact ⟨done, i + 1, line, st, rfl, rfl, by go_num, by omega, by omega, by omega, by omega, Lib.hid (by rw [hT.out, hT2]; congr 2; omega), HO.out, hbel⟩
     case measure => simp [intOf]; omega
    ·have q32 : (((c.toNat : Nat) : Int) == 32) = false := (byte_eq c 32).trans (by simp [h3])
     have q9 : (((c.toNat : Nat) : Int) == 9) = false := (byte_eq c 9).trans (by simp [h3])
     have q13 : (((c.toNat : Nat) : Int) == 13) = true := (byte_eq c 13).trans (by simp [h3])
     clear h3
     go_wp2_with fail
     go_roundw
     case rel => exact ⟨done, i + 1, line, st, rfl, rfl, by go_num, by omega, by omega, by omega, by omega, Lib.hid (by rw [hT.out, hT2]; congr 2; omega), HO.out, hbel⟩
     case measure => simp [intOf]; omega
   have hbk : isBlk c = false := by simpa using hbk
   have q32 : (((c.toNat : Nat) : Int) == 32) = false := (byte_eq c 32).trans (beq_eq_false_iff_ne.2 (by rintro rfl; exact absurd hbk (by decide)))
   have q9 : (((c.toNat : Nat) : Int) == 9) = false := (byte_eq c 9).trans (beq_eq_false_iff_ne.2 (by rintro rfl; exact absurd hbk (by decide)))
   have q13 : (((c.toNat : Nat) : Int) == 13) = false := (byte_eq c 13).trans (beq_eq_false_iff_ne.2 (by rintro rfl; exact absurd hbk (by decide)))
   by_cases h37 : c = 37
   ·have q37 : (((c.toNat : Nat) : Int) == 37) = true := (byte_eq c 37).trans (by simp [h37])
    obtain ⟨hcp, hT2⟩ := tk_com_at hl (by rw [hc]; exact h37) line (i - st + 1)
    go_wp2_with fail
    clear q10 q32 q9 q13 q37 hget h10 hbk h37 hc
    go_loopw [7] (fun jv w2 => ∃ (j : Nat), jv = .int .i64 (j : Nat) ∧ i ≤ j ∧ j ≤ s.length ∧ Hid (j + comN (s.drop j) = i + comN (s.drop i)) ∧ wr = w2) (fun jv _ => s.length - (intOf jv).toNat)
    case atStart => exact ⟨i, rfl, Nat.le_refl _, hi, Lib.hid rfl, by first | rfl | trivial⟩
    case round =>
     obtain ⟨j, rfl, hij, hj, hcj, hw2⟩ := hrel
     subst hw2
     rcases Nat.lt_or_ge j s.length with hjl | hjl
     ·have hlj : j < s.length := hjl
      have hj1 : ((j : Int) < (s.length : Int)) = True := by simp; omega
      obtain ⟨d, hd⟩ : ∃ d, atB s j = d := ⟨_, rfl⟩
      have hget : ∀ h, (⟨s.toArray⟩ : ByteArray)[j]'h = d := fun h => by rw [← hd]; exact (atB_lt hjl).symm
      by_cases hd10 : d = 10
      ·have e10 : (((d.toNat : Nat) : Int) == 10) = true := (byte_eq d 10).trans (by simp [hd10])
       have hst0 := comN_stop (s := s) (j := j) (.inr (by rw [hd]; exact hd10))
       have hjn : i + comN (s.drop i) = j := by have := hcj.out; omega
       clear hd hd10
       go_wp2_with fail
       go_roundw
       case rel => exact ⟨done, j, line, st, rfl, rfl, rfl, hj, by omega, by omega, by omega, Lib.hid (by rw [hT.out, hT2, hjn, show i - st + 1 + comN (s.drop i) = j - st + 1 by have := hcj.out; omega]), HO.out, hbel⟩
       case measure => simp [intOf]; omega
      ·have e10 : (((d.toNat : Nat) : Int) == 10) = false := (byte_eq d 10).trans (by simp [hd10])
       have hst9 := comN_step hjl (by rw [hd]; exact hd10)
       clear hd hd10
       go_wp2_with fail
       go_roundw
       case rel => exact ⟨j + 1, by go_num, by omega, by omega, Lib.hid (by have h9 := hcj.out; rw [hst9] at h9; omega), by first | rfl | trivial⟩
       case measure => simp [intOf]; omega
     ·have hj1 : ((j : Int) < (s.length : Int)) = False := by simp; omega
      have hst0 := comN_stop (s := s) (j := j) (.inl hjl)
      have hjn : i + comN (s.drop i) = j := by have := hcj.out; omega
      go_wp2_with fail
      go_roundw
      case rel => exact ⟨done, j, line, st, rfl, rfl, rfl, hj, by omega, by omega, by omega, Lib.hid (by rw [hT.out, hT2, hjn, show i - st + 1 + comN (s.drop i) = j - st + 1 by have := hcj.out; omega]), HO.out, hbel⟩
      case measure => simp [intOf]; omega
   have q37 : (((c.toNat : Nat) : Int) == 37) = false := (byte_eq c 37).trans (by simp [h37])
   obtain ⟨r, hr⟩ : ∃ r, s.drop i = r := ⟨_, rfl⟩
   have hrl : r.length = s.length - i := by rw [← hr, List.length_drop]
   have e2 : (⟨s.toArray⟩ : ByteArray).extract i s.length = ⟨r.toArray⟩ := by
    rw [ext_v, hr, List.take_of_length_le (by omega)]
   have hi0 : (0 : Int) ≤ (i : Int) := by omega
   have hiL : (i : Int) ≤ (s.length : Int) := by omega
   cases hf : firstT (s.drop i) with
   | err x =>
    have hT2 := tk_err_at hl hf (by rw [hc]; exact h10) (by rw [hc]; exact hbk) (by rw [hc]; exact h37) line (i - st + 1)
    have hx0 := firstT_errN hf
    have hx1 : ((x : Int) == 0) = false := by simp; omega
    go_wp2_with fail
    (with_reducible refine (t_first_err _ r (by omega) (by omega) x (hr ▸ hf)).mono ?_); rintro e w1 ⟨rfl, hb9⟩
    go_wp2_with fail
    refine bodyPost_ret (v := .tuple #[.slice none 0 0, .iface 63 (.int .i64 (x : Nat))]) (by simp [results, Tryz.results23, go_sem, *] <;> trivial) rfl ?_
    refine ⟨(x : Int), [], .err x hsm (by rw [hT.out, hT2]; rfl) rfl rfl, none, 0, 0, by show _ = Ending.returned (.tuple #[_, errV (x : Int)]); rw [show errV (x : Int) = _ from if_neg (by omega)], TkS.nil _, hbel.trans (hb9.mono hbel.size)⟩
   | ok k n =>
    have hfk := firstT_ok hf
    rw [List.length_drop] at hfk
    have hT2 := tk_tok_at hl hf line (i - st + 1)
    obtain ⟨x, hx⟩ : ∃ x, (s.drop i).take n = x := ⟨_, rfl⟩
    rw [hx] at hT2
    have hwin : IntKind.i64.wrap ((i : Int) + (n : Int)) = (i : Int) + (n : Int) := IntWalk.i64_in _ ⟨by omega, by omega⟩
    have htn : ((i : Int) + (n : Int)).toNat = i + n := by omega
    have e3 : (⟨s.toArray⟩ : ByteArray).extract i (i + n) = ⟨x.toArray⟩ := by
     rw [ext_v, ← hx, show i + n - i = n by omega]
    have hn0 : (0 : Int) ≤ (i : Int) + (n : Int) := by omega
    have hn1 : (i : Int) + (n : Int) ≤ (s.length : Int) := by omega
    have hn2 : (i : Int) ≤ (i : Int) + (n : Int) := by omega
    have hwc1 : IntKind.i64.wrap ((i : Int) - (st : Int)) = (i : Int) - (st : Int) := IntWalk.i64_in _ ⟨by omega, by omega⟩
    have hwc2 : IntKind.i64.wrap ((i : Int) - (st : Int) + 1) = (i : Int) - (st : Int) + 1 := IntWalk.i64_in _ ⟨by omega, by omega⟩
    go_wp2_with fail
    (with_reducible refine (t_first_ok _ r (by omega) (by omega) k n (hr ▸ hf)).mono ?_); rintro e w1 ⟨rfl, hb9⟩
    have HO3 := Lib.hid (own_below HO.out hb9)
    have hbel3 := hbel.trans (hb9.mono hbel.size)
    clear hb9
    go_wp2_with (at_builtin; refine wpList_append_lies _ rfl _ _ _ rfl w.heap.size 48 i0 (.agg #[.int .i64 0, .string ⟨#[]⟩, .int .i64 0, .int .i64 0]) 4 40 Tryz.underlying44 HI.out.1 HI.out.2.1 HI.out.2.2.1 HI.out.2.2.2 rfl (by omega) _ done.length (tokCs done) rfl (HO3.out.alloc _) ⟨w1.heap.size, 0, none⟩ 1 1 [_, _, _, _] rfl rfl (World.news_of_block (heap_alloc_new w1 _)) (by simp [Value.oneCell']) (by omega) (by unfold maxLen; omega) (by omega) (by have := hbel3.size; simp; omega) (w1.heap.size + 1) (by simp) ?_; intro gx cap w9 hown1 hgrow hat hlt1)
    go_roundw
    case rel =>
     refine ⟨done ++ [⟨k, x, line, (i - st + 1)⟩], i + n, line, st, rfl, rfl, by go_num, by omega, by omega, by omega, by rw [List.length_append, List.length_singleton]; omega, Lib.hid ?_, ?_, (hbel3.alloc hbel3.size _).grown hgrow (by have := hbel3.size; simp; omega) (own_base HO3.out)⟩
     ·rw [hT.out, hT2, pre_push]; congr 2; omega
     ·rw [tokCs_snoc, List.length_append, List.length_singleton]
      have e : ([.int .i64 (k : Nat), strV x, .int .i64 (line : Nat), .int .i64 ((i : Int) - (st : Int) + 1)] : List Value) = tokC ⟨k, x, line, (i - st + 1)⟩ := by unfold tokC; simp; try omega
      rw [← e]; exact hown1
    case measure => simp [intOf]; omega
  ·have hi1 : ((i : Int) < (s.length : Int)) = False := by simp; omega
   obtain rfl : i = s.length := by omega
   obtain ⟨A, cc, hv, hS⟩ := TkS.of_own HO.out
   subst hv
   go_wp2_with fail
   refine bodyPost_ret (v := .tuple #[.slice A done.length cc, .nilIface]) (by simp [results, Tryz.results23, go_sem, *] <;> trivial) rfl ?_
   exact ⟨0, done, .ok hsm (by rw [hT.out, List.drop_length, tk_nil]; simp [pre]) rfl, A, done.length, cc, rfl, hS, hbel⟩
end Go.Proofs.YtoiijifnfdgfpaaGreatDoor

/- Walks: tokens: Same, alike. -/
namespace Go.Proofs.YtoiijifnfdgfpaaGreatDoor
open Go Go.RowKit Bn
attribute [local go_sem ↓] Go.wp_at_zero Go.wp_at_succ
theorem tokCs_at {l : List Tkn} {i : Nat} (h : i < l.length) : (tokCs l)[i * 4]? = some (.int .i64 (l[i].kind : Nat)) ∧ (tokCs l)[i * 4 + 1]? = some (strV l[i].text) ∧ (tokCs l)[i * 4 + 2]? = some (.int .i64 (l[i].line : Nat)) ∧ (tokCs l)[i * 4 + 3]? = some (.int .i64 (l[i].col : Nat)) := by
  induction l generalizing i with
  | nil => simp at h
  | cons t l ih =>
    have e : tokCs (t :: l) = [.int .i64 (t.kind : Nat), strV t.text, .int .i64 (t.line : Nat), .int .i64 (t.col : Nat)] ++ tokCs l := rfl
    rw [e]
    cases i with
    | zero => simp
    | succ i =>
      have h1 := ih (i := i) (by simpa using h)
      have s : (i + 1) * 4 = i * 4 + 4 := by omega
      rw [s]
      simp only [List.getElem_cons_succ]
      refine ⟨?_, ?_, ?_, ?_⟩
      · rw [List.getElem?_append_right (by simp)]; exact h1.1
      · rw [List.getElem?_append_right (by simp)]; exact h1.2.1
      · rw [List.getElem?_append_right (by simp)]; exact h1.2.2.1
      · rw [List.getElem?_append_right (by simp)]; exact h1.2.2.2
theorem TkS.cells {w : World} {A : Option Addr} {n c : Nat} {l : List Tkn} (h : TkS w A n c l) {i : Nat} (hi : i < n) : ∃ g t, A = some ⟨g, 0, none⟩ ∧ n ≤ c ∧ l[i]? = some t ∧ w.cell? ⟨g, i * 4, none⟩ = some (.int .i64 (t.kind : Nat)) ∧ w.cell? ⟨g, i * 4 + 1, none⟩ = some (strV t.text) ∧ w.cell? ⟨g, i * 4 + 2, none⟩ = some (.int .i64 (t.line : Nat)) ∧ w.cell? ⟨g, i * 4 + 3, none⟩ = some (.int .i64 (t.col : Nat)) := by
  have hl := h.1
  rcases h.2 with ⟨h0, _⟩ | ⟨g, e, hc, h2⟩
  · omega
  · have h3 := tokCs_at (l := l) (i := i) (by omega)
    exact ⟨g, _, e, hc, List.getElem?_eq_getElem (by omega), h2 _ _ h3.1, h2 _ _ h3.2.1, h2 _ _ h3.2.2.1, h2 _ _ h3.2.2.2⟩
end Go.Proofs.YtoiijifnfdgfpaaGreatDoor

/- Walks: tokens: names, joined texts. -/
namespace Go.Proofs.YtoiijifnfdgfpaaGreatDoor
open Go Go.RowKit Bn
attribute [local go_sem ↓] Go.wp_at_zero Go.wp_at_succ
def nameOk (s : List UInt8) : Bool := decide (0 < wordN s) && decide (wordN s = s.length) && decide (wordN s ≤ 24)
def joinT : List (List UInt8) → List UInt8
  | [] => []
  | [x] => x
  | x :: y :: r => x ++ 32 :: joinT (y :: r)
theorem joinT_eq (xs : List (List UInt8)) : Lib.join xs [32] = joinT xs := by
  induction xs with
  | nil => rfl
  | cons x r ih =>
    cases r with
    | nil => rw [Lib.join_one]; rfl
    | cons y r =>
      rw [joinT, ← ih]
      rw [Lib.join_cons, Lib.join_cons]
      simp [Lib.joinTail]
theorem app_v (a b : List UInt8) : (⟨a.toArray⟩ : ByteArray) ++ (⟨b.toArray⟩ : ByteArray) = ⟨(a ++ b).toArray⟩ := by
  apply ByteArray.ext
  simp
theorem t_name (w : World) (s : List UInt8) (hs : s.length < 4611686018427387904) (v : Bool) (hv : nameOk s = v) : Calls Tryz.prog 58 #[strV s] w (RetV w (.bool v)) := by
 have hszs := size_v s
 obtain ⟨n, hwn⟩ : ∃ n, wordN s = n := ⟨_, rfl⟩
 have hnl : n ≤ s.length := by rw [← hwn]; exact wordN_le s
 unfold nameOk at hv
 rw [hwn] at hv
 rcases (show n = 0 ∨ (0 < n ∧ n ≠ s.length) ∨ (0 < n ∧ n = s.length ∧ 24 < n) ∨ (0 < n ∧ n = s.length ∧ n ≤ 24) by omega) with h1 | ⟨h1, h2⟩ | ⟨h1, h2, h3⟩ | ⟨h1, h2, h3⟩
 ·have g0 : ((0 : Int) < (n : Int)) = False := eq_false (by omega)
  obtain rfl : v = false := by rw [← hv]; simp; omega
  have g8 : (n == 0) = true := by simp; omega
  clear hv
  go_enter Tryz.func58, Tryz.ntmps58
  go_wp2_with fail
  (with_reducible refine (t_word _ (s) hs n hwn).mono ?_); rintro e w1 ⟨rfl, q1⟩
  have bw1 := (brefl w).trans (q1.mono (brefl w).size)
  have lw1 := q1.size
  clear q1
  go_wp2_with fail
  go_ret
  exact retB rfl bw1
 ·have g0 : ((0 : Int) < (n : Int)) = True := eq_true (by omega)
  have g1 : ((n : Int) == (s.length : Int)) = false := by simp; omega
  obtain rfl : v = false := by rw [← hv]; simp; omega
  clear hv h2
  go_enter Tryz.func58, Tryz.ntmps58
  go_wp2_with fail
  (with_reducible refine (t_word _ (s) hs n hwn).mono ?_); rintro e w1 ⟨rfl, q1⟩
  have bw1 := (brefl w).trans (q1.mono (brefl w).size)
  have lw1 := q1.size
  clear q1
  go_wp2_with fail
  go_ret
  exact retB rfl bw1
 ·have g0 : ((0 : Int) < (n : Int)) = True := eq_true (by omega)
  have g1 : ((n : Int) == (s.length : Int)) = true := by simp; omega
  have g2 : ((n : Int) ≤ 24) = False := eq_false (by omega)
  obtain rfl : v = false := by rw [← hv]; simp; omega
  clear hv h2
  go_enter Tryz.func58, Tryz.ntmps58
  go_wp2_with fail
  (with_reducible refine (t_word _ (s) hs n hwn).mono ?_); rintro e w1 ⟨rfl, q1⟩
  have bw1 := (brefl w).trans (q1.mono (brefl w).size)
  have lw1 := q1.size
  clear q1
  go_wp2_with fail
  go_ret
  exact retB rfl bw1
 ·have g0 : ((0 : Int) < (n : Int)) = True := eq_true (by omega)
  have g1 : ((n : Int) == (s.length : Int)) = true := by simp; omega
  have g2 : ((n : Int) ≤ 24) = True := eq_true (by omega)
  obtain rfl : v = true := by rw [← hv, decide_eq_true (show 0 < n by omega), decide_eq_true (show n = s.length by omega), decide_eq_true (show n ≤ 24 by omega)]; rfl
  clear hv h2
  go_enter Tryz.func58, Tryz.ntmps58
  go_wp2_with fail
  (with_reducible refine (t_word _ (s) hs n hwn).mono ?_); rintro e w1 ⟨rfl, q1⟩
  have bw1 := (brefl w).trans (q1.mono (brefl w).size)
  have lw1 := q1.size
  clear q1
  go_wp2_with fail
  go_ret
  exact retB rfl bw1
end Go.Proofs.YtoiijifnfdgfpaaGreatDoor

/- Linkages: plain: what is wrong with one. -/
namespace Go.Proofs.YtoiijifnfdgfpaaGreatDoor
open Go Go.RowKit Bn
attribute [local go_sem ↓] Go.wp_at_zero Go.wp_at_succ
structure MarkL where
  name : List UInt8
  x : RD
  y : RD
structure BodyL where
  name : List UInt8
  pts : List MarkL
structure JointL where
  name : List UInt8
  kind : Int
  a : Int
  point : Int
  b : Int
  on : Int
  to_ : Int
structure DriverL where
  name : List UInt8
  body : Int
structure LinkL where
  name : List UInt8
  bodies : List BodyL
  joints : List JointL
  drivers : List DriverL
def errs {α : Type} (f : List α → α → Int) : List α → List α → Int
  | _, [] => 0
  | prev, a :: r => if f prev a = 0 then errs f (prev ++ [a]) r else f prev a
theorem errs_step {α : Type} {f : List α → α → Int} {l : List α} {i : Nat} {x : Int} (h : errs f (l.take i) (l.drop i) = x) {a : α} (ha : l[i]? = some a) :
    (f (l.take i) a = 0 ∧ errs f (l.take (i + 1)) (l.drop (i + 1)) = x) ∨ (f (l.take i) a ≠ 0 ∧ f (l.take i) a = x) := by
  obtain ⟨hl, he⟩ := List.getElem?_eq_some_iff.1 ha
  have hd : l.drop i = a :: l.drop (i + 1) := by rw [List.drop_eq_getElem_cons hl, he]
  have ht : l.take (i + 1) = l.take i ++ [a] := by rw [List.take_add_one, ha]; rfl
  rw [hd] at h
  unfold errs at h
  rw [ht]
  split at h
  · left; rename_i h0; exact ⟨h0, h⟩
  · right; rename_i h0; exact ⟨h0, h⟩
theorem errs_end {α : Type} {f : List α → α → Int} {l : List α} {i : Nat} {x : Int} (h : errs f (l.take i) (l.drop i) = x) (hi : l.length ≤ i) : x = 0 := by
  rw [List.drop_eq_nil_of_le hi] at h
  exact h.symm
theorem errs_start {α : Type} {f : List α → α → Int} {l : List α} {x : Int} (h : errs f [] l = x) : errs f (l.take 0) (l.drop 0) = x := h
def twN (l : List (List UInt8)) (n : List UInt8) : Bool := l.any fun m => m == n
theorem twM_step {α : Type} {f : α → List UInt8} {l : List α} {j : Nat} {a : α} {nm : List UInt8} (ha : l[j]? = some a) (h : twN ((l.take j).map f) nm = false) (hne : f a ≠ nm) : twN ((l.take (j + 1)).map f) nm = false := by
  have ht : l.take (j + 1) = l.take j ++ [a] := by rw [List.take_add_one, ha]; rfl
  unfold twN at h ⊢
  rw [ht, List.map_append, List.any_append, h]
  simpa using hne
theorem twM_hit {α : Type} {f : α → List UInt8} {l : List α} {j i : Nat} {a : α} {nm : List UInt8} (ha : l[j]? = some a) (hji : j < i) (he : f a = nm) : twN ((l.take i).map f) nm = true := by
  unfold twN
  rw [List.any_eq_true]
  refine ⟨f a, ?_, by simpa using he⟩
  have h1 : (l.take i)[j]? = some a := by rw [List.getElem?_take, if_pos hji]; exact ha
  exact List.mem_map_of_mem (List.mem_of_getElem? h1)
def inI (i : Int) (n : Nat) : Bool := decide (0 ≤ i) && decide (i < (n : Int))
def markErr (prev : List MarkL) (m : MarkL) : Int :=
  if nameOk m.name = false then 5 else if twN (prev.map MarkL.name) m.name = true then 6 else if m.x.ok = false then 3 else if m.y.ok = false then 3 else 0
def bodyErr (prev : List BodyL) (b : BodyL) : Int :=
  if nameOk b.name = false then 5 else if twN (prev.map BodyL.name) b.name = true then 6 else if 8 < b.pts.length then 4 else errs markErr [] b.pts
def ptsAt (L : LinkL) (i : Int) : List MarkL := match L.bodies[i.toNat]? with | some b => b.pts | none => []
def placeEq (l : List MarkL) (i j : Int) : Bool := match l[i.toNat]?, l[j.toNat]? with | some p, some q => decide (p.x.q = q.x.q) && decide (p.y.q = q.y.q) | _, _ => false
def jointE (L : LinkL) (j : JointL) : Int :=
  if j.kind ≠ 0 ∧ j.kind ≠ 1 then 7 else if inI j.a L.bodies.length = false then 9 else if inI j.b L.bodies.length = false then 9 else if j.a = j.b then 13
  else if inI j.point (ptsAt L j.a).length = false then 9 else if inI j.on (ptsAt L j.b).length = false then 9
  else if j.kind = 0 then (if j.to_ = 0 then 0 else 2) else if inI j.to_ (ptsAt L j.b).length = false then 9 else if placeEq (ptsAt L j.b) j.on j.to_ = true then 8 else 0
def jointErr (L : LinkL) (prev : List JointL) (j : JointL) : Int :=
  if nameOk j.name = false then 5 else if twN (prev.map JointL.name) j.name = true then 6 else jointE L j
def driverErr (n : Nat) (prev : List DriverL) (d : DriverL) : Int :=
  if nameOk d.name = false then 5 else if twN (prev.map DriverL.name) d.name = true then 6 else if inI d.body n = false then 9 else if d.body = 0 then 7
  else if (prev.any fun p => p.body == d.body) = true then 6 else 0
def lkErr (L : LinkL) : Int :=
  if nameOk L.name = false then 5 else if L.bodies.length = 0 then 10 else if 8 < L.bodies.length then 4 else if errs bodyErr [] L.bodies ≠ 0 then errs bodyErr [] L.bodies
  else if 16 < L.joints.length then 4 else if errs (jointErr L) [] L.joints ≠ 0 then errs (jointErr L) [] L.joints
  else if 2 < L.drivers.length then 4 else errs (driverErr L.bodies.length) [] L.drivers
end Go.Proofs.YtoiijifnfdgfpaaGreatDoor

/- Walks: the texts of fractions. -/
namespace Go.Proofs.YtoiijifnfdgfpaaGreatDoor
open Go Go.RowKit Bn
attribute [local go_sem ↓] Go.wp_at_zero Go.wp_at_succ
theorem itoa_le {z : Int} {k K : Nat} (h : z.natAbs < 4294967296 ^ k) (hk : k ≤ K) (h0 : 0 < K) : (Lib.itoa z).length ≤ 10 * K + 1 := by
  have h2 : Lib.nDigits z.natAbs ≤ 10 * K := nDig_words' hk h0 h
  rw [itoa_abs, List.length_append, Lib.decDigits_length]
  split <;> simp <;> omega
theorem cat_slash (X Y : List UInt8) : ((⟨X.toArray⟩ : ByteArray) ++ ⟨#[47]⟩) ++ ⟨Y.toArray⟩ = ⟨(X ++ 47 :: Y).toArray⟩ := by
  rw [show (⟨#[47]⟩ : ByteArray) = ⟨[47].toArray⟩ from rfl, cat_v, cat_v, List.append_assoc]; rfl
theorem ratText_1 {q : Rat} (h : q.den = 1) : ratText q = Lib.itoa q.num := if_pos h
theorem ratText_2 {q : Rat} (h : q.den ≠ 1) : ratText q = Lib.itoa q.num ++ 47 :: Lib.itoa (q.den : Int) := if_neg h
theorem cmpI_ne {x y : Int} (h : x ≠ y) : cmpI x y ≠ 0 := by
  unfold cmpI; (repeat' split) <;> omega
theorem cmpI_one : cmpI 1 1 = 0 := by decide
theorem f_text_1 (w : World) (b A n c D m e q k) (h : QZ w b A n c D m e q k) (h0 : 0 < k) (hk : k ≤ 40000000) (htab : Tab w) (hd : q.den = 1) :
    Calls Tryz.prog 79 #[.agg #[.bool b, .slice A n c, .slice D m e]] w (RetV w (strV (ratText q))) := by
  rw [ratText_1 hd]
  have HC := Lib.hid (show cmpI (q.den : Int) 1 = 0 by rw [hd]; exact cmpI_one)
  clear hd
  go_enter Tryz.func79, Tryz.ntmps79
  go_wp2_with fail
  (with_reducible refine (f_parts _ b A n c D m e (q) (k) ?_ ?_ ?_).mono ?_); (exact (h.belw ((Below.refl _ _).alloc (Nat.le_refl _) _))); (omega); (omega); rintro e w1 ⟨b1, A1, n1, c1, b'1, A'1, n'1, c'1, rfl, h1, h'1, hb1⟩
  have q1 := hb1.q1
  replace h := h.belw q1
  have x1a : Blk w1 w.heap.size 72 #[.bool b, .slice A n c, .slice D m e] := (blkAt _ _ _ (by simp)).below hb1 (by simp)
  have bw1 := (brefl w).trans (q1.mono (brefl w).size)
  have lw1 := hb1.l1
  clear q1
  go_wp2_with fail
  have p2 := (((Kp.refl w1).alloc (.cells #[.bool b1, .slice A1 n1 c1] 123)).alloc (.cells #[.bool b'1, .slice A'1 n'1 c'1] 123))
  have bw2 := ((bw1.alloc (by first | omega | (simp <;> omega)) (.cells #[.bool b1, .slice A1 n1 c1] 123)).alloc (by first | omega | (simp <;> omega)) (.cells #[.bool b'1, .slice A'1 n'1 c'1] 123))
  have x2a : Blk ((w1.alloc (.cells #[.bool b1, .slice A1 n1 c1] 123)).alloc (.cells #[.bool b'1, .slice A'1 n'1 c'1] 123)) w1.heap.size 123 #[.bool b1, .slice A1 n1 c1] := ((blkAt _ _ _ (by simp)).alloc (.cells #[.bool b'1, .slice A'1 n'1 c'1] 123))
  have x2b : Blk ((w1.alloc (.cells #[.bool b1, .slice A1 n1 c1] 123)).alloc (.cells #[.bool b'1, .slice A'1 n'1 c'1] 123)) (w1.heap.size + 1) 123 #[.bool b'1, .slice A'1 n'1 c'1] := (blkAt _ _ _ (by simp))
  replace x1a := ((x1a.alloc (.cells #[.bool b1, .slice A1 n1 c1] 123)).alloc (.cells #[.bool b'1, .slice A'1 n'1 c'1] 123))
  have lw2 : w1.heap.size + 2 ≤ ((w1.alloc (.cells #[.bool b1, .slice A1 n1 c1] 123)).alloc (.cells #[.bool b'1, .slice A'1 n'1 c'1] 123)).heap.size := by simp
  generalize hE2 : ((w1.alloc (.cells #[.bool b1, .slice A1 n1 c1] 123)).alloc (.cells #[.bool b'1, .slice A'1 n'1 c'1] 123)) = w2 at p2 bw2 lw2 x2a x2b x1a ⊢
  clear hE2
  replace h := h.keep p2
  replace h1 := h1.keep p2
  replace h'1 := h'1.keep p2
  clear bw1
  have lx1a := lts0 x1a.lt
  obtain ⟨lx2aa, lx2ab, lx2ac, lx2ad⟩ := lts0 x2a.lt
  have cx2b := x2b.c2
  have lx2b := lts1 x2b.lt
  go_region_held3 (fun w' => Sees w2.heap.size w2 w') (first | with_reducible exact Sees.of (Nat.le_refl _) (by assumption) | with_reducible exact Sees.of (Nat.le_refl _) (brefl _).drew | exact Sees.of (Nat.le_refl _) (below_drewN (brefl _) 1) | exact Sees.of (Nat.le_refl _) (below_drewN (by assumption) _))
    (first
      | (go_at_call 73; (with_reducible refine (f_one _).mono ?_); rintro e w3 ⟨b3, A3, n3, c3, rfl, h3, hb3⟩; replace hb3 := bnext (below_drewN (brefl _) 1) hb3; have q3 : Below w2.heap.size w2 w3 := bnext (brefl w2) hb3; replace h := h.belw hb3; replace h1 := h1.belw hb3; replace h'1 := h'1.belw hb3)
      | (go_at_call 71; (with_reducible refine (i_cmp_w _ b'1 A'1 n'1 c'1 (((q).den : Int)) ((k)) ?_ b3 A3 n3 c3 (1) (1) ?_ 0 HC.out ?_).mono ?_); (exact h'1.iz); (exact h3.iz); (omega); rintro e w4 ⟨rfl, hb4⟩; have q4 : Below w2.heap.size w2 w4 := bnext q3 hb4; replace h := h.belw hb4; replace h1 := h1.belw hb4; replace h'1 := h'1.belw hb4; replace h3 := h3.belw hb4))
  have bw4 := bw2.trans (q4.mono bw2.size)
  clear lx1a lx2aa lx2ab lx2ac lx2ad cx2b lx2b
  replace x1a := x1a.b q4
  replace x2a := x2a.b q4
  replace x2b := x2b.b q4
  have lw4 := q4.size
  have cx2a := x2a.c2
  obtain ⟨lx2aa, lx2ab, lx2ac, lx2ad⟩ := lts0 x2a.lt
  go_wp2_with fail
  (with_reducible refine (i_text_l _ b1 A1 n1 c1 ((q).num) ((k)) ?_ (Lib.itoa q.num) ?_ ?_ ?_).mono ?_); (exact h1.iz); (omega); (first | exact htab.belw bw4 | exact (htab.belw bw4).belw (below_drewN (brefl _) 1) | exact (htab.belw bw4).belw (brefl _).drew | exact (htab.belw bw4).belw (by assumption) | fail); (exact rfl); rintro e w5 ⟨rfl, q5⟩
  clear cx2a lx2aa lx2ab lx2ac lx2ad
  replace h := h.belw q5
  replace h1 := h1.belw q5
  replace h'1 := h'1.belw q5
  replace h3 := h3.belw q5
  replace x1a := x1a.b q5
  replace x2a := x2a.b q5
  replace x2b := x2b.b q5
  have bw5 := bw4.trans (q5.mono bw4.size)
  have lw5 := q5.size
  clear q5 bw4
  go_wp2_with fail
  go_ret
  exact ⟨rfl, bw5⟩
theorem f_text_2 (w : World) (b A n c D m e q k) (h : QZ w b A n c D m e q k) (h0 : 0 < k) (hk : k ≤ 40000000) (htab : Tab w) (hd : q.den ≠ 1) :
    Calls Tryz.prog 79 #[.agg #[.bool b, .slice A n c, .slice D m e]] w (RetV w (strV (ratText q))) := by
  rw [ratText_2 hd]
  obtain ⟨u, hu⟩ : ∃ u, cmpI (q.den : Int) 1 = u := ⟨_, rfl⟩
  have hu0 : u ≠ 0 := by rw [← hu]; exact cmpI_ne (by omega)
  have e0 : ((u : Int) == 0) = false := by simp; exact hu0
  have HC := Lib.hid hu
  obtain ⟨X, hX⟩ : ∃ X, Lib.itoa q.num = X := ⟨_, rfl⟩
  obtain ⟨Y, hY⟩ : ∃ Y, Lib.itoa (q.den : Int) = Y := ⟨_, rfl⟩
  have hs := h.sz h0
  have hx1 : (⟨X.toArray⟩ : ByteArray).size ≤ 1000000000 := by show X.length ≤ _; rw [← hX]; have := itoa_le hs.1 hk (by omega); omega
  have hy1 : (⟨Y.toArray⟩ : ByteArray).size ≤ 1000000000 := by show Y.length ≤ _; rw [← hY]; have := itoa_le (z := (q.den : Int)) (by simpa using hs.2) hk (by omega); omega
  obtain ⟨N, hN⟩ : ∃ N, (⟨X.toArray⟩ : ByteArray).size = N := ⟨_, rfl⟩
  obtain ⟨M, hM⟩ : ∃ M, (⟨Y.toArray⟩ : ByteArray).size = M := ⟨_, rfl⟩
  rw [hN] at hx1
  rw [hM] at hy1
  have hc1 : (9223372036854775807 < N + 1) = False := by simp; omega
  have hc2 : (9223372036854775807 ≤ N) = False := by simp; omega
  have hc3 : (9223372036854775807 < N + 1 + M) = False := by simp; omega
  rw [hX, hY]
  have HX := Lib.hid hX
  have HY := Lib.hid hY
  clear hd hu hu0 hX hY hs
  go_enter Tryz.func79, Tryz.ntmps79
  go_wp2_with fail
  (with_reducible refine (f_parts _ b A n c D m e (q) (k) ?_ ?_ ?_).mono ?_); (exact (h.belw ((Below.refl _ _).alloc (Nat.le_refl _) _))); (omega); (omega); rintro e w1 ⟨b1, A1, n1, c1, b'1, A'1, n'1, c'1, rfl, h1, h'1, hb1⟩
  have q1 := hb1.q1
  replace h := h.belw q1
  have x1a : Blk w1 w.heap.size 72 #[.bool b, .slice A n c, .slice D m e] := (blkAt _ _ _ (by simp)).below hb1 (by simp)
  have bw1 := (brefl w).trans (q1.mono (brefl w).size)
  have lw1 := hb1.l1
  clear q1
  go_wp2_with fail
  have p2 := (((Kp.refl w1).alloc (.cells #[.bool b1, .slice A1 n1 c1] 123)).alloc (.cells #[.bool b'1, .slice A'1 n'1 c'1] 123))
  have bw2 := ((bw1.alloc (by first | omega | (simp <;> omega)) (.cells #[.bool b1, .slice A1 n1 c1] 123)).alloc (by first | omega | (simp <;> omega)) (.cells #[.bool b'1, .slice A'1 n'1 c'1] 123))
  have x2a : Blk ((w1.alloc (.cells #[.bool b1, .slice A1 n1 c1] 123)).alloc (.cells #[.bool b'1, .slice A'1 n'1 c'1] 123)) w1.heap.size 123 #[.bool b1, .slice A1 n1 c1] := ((blkAt _ _ _ (by simp)).alloc (.cells #[.bool b'1, .slice A'1 n'1 c'1] 123))
  have x2b : Blk ((w1.alloc (.cells #[.bool b1, .slice A1 n1 c1] 123)).alloc (.cells #[.bool b'1, .slice A'1 n'1 c'1] 123)) (w1.heap.size + 1) 123 #[.bool b'1, .slice A'1 n'1 c'1] := (blkAt _ _ _ (by simp))
  replace x1a := ((x1a.alloc (.cells #[.bool b1, .slice A1 n1 c1] 123)).alloc (.cells #[.bool b'1, .slice A'1 n'1 c'1] 123))
  have lw2 : w1.heap.size + 2 ≤ ((w1.alloc (.cells #[.bool b1, .slice A1 n1 c1] 123)).alloc (.cells #[.bool b'1, .slice A'1 n'1 c'1] 123)).heap.size := by simp
  generalize hE2 : ((w1.alloc (.cells #[.bool b1, .slice A1 n1 c1] 123)).alloc (.cells #[.bool b'1, .slice A'1 n'1 c'1] 123)) = w2 at p2 bw2 lw2 x2a x2b x1a ⊢
  clear hE2
  replace h := h.keep p2
  replace h1 := h1.keep p2
  replace h'1 := h'1.keep p2
  clear bw1
  obtain ⟨lx1aa, lx1ab, lx1ac, lx1ad⟩ := lts0 x1a.lt
  obtain ⟨lx2aa, lx2ab, lx2ac, lx2ad⟩ := lts0 x2a.lt
  obtain ⟨cx2ba, cx2bb⟩ := x2b.c2
  obtain ⟨lx2ba, lx2bb, lx2bc, lx2bd⟩ := lts1 x2b.lt
  go_region_held3 (fun w' => Sees w2.heap.size w2 w') (first | with_reducible exact Sees.of (Nat.le_refl _) (by assumption) | with_reducible exact Sees.of (Nat.le_refl _) (brefl _).drew | exact Sees.of (Nat.le_refl _) (below_drewN (brefl _) 1) | exact Sees.of (Nat.le_refl _) (below_drewN (by assumption) _))
    (first
      | (go_at_call 73; (with_reducible refine (f_one _).mono ?_); rintro e w3 ⟨b3, A3, n3, c3, rfl, h3, hb3⟩; replace hb3 := bnext (below_drewN (brefl _) 1) hb3; have q3 : Below w2.heap.size w2 w3 := bnext (brefl w2) hb3; replace h := h.belw hb3; replace h1 := h1.belw hb3; replace h'1 := h'1.belw hb3)
      | (go_at_call 71; (with_reducible refine (i_cmp_w _ b'1 A'1 n'1 c'1 (((q).den : Int)) ((k)) ?_ b3 A3 n3 c3 (1) (1) ?_ u HC.out ?_).mono ?_); (exact h'1.iz); (exact h3.iz); (omega); rintro e w4 ⟨rfl, hb4⟩; have q4 : Below w2.heap.size w2 w4 := bnext q3 hb4; replace h := h.belw hb4; replace h1 := h1.belw hb4; replace h'1 := h'1.belw hb4; replace h3 := h3.belw hb4))
  have bw4 := bw2.trans (q4.mono bw2.size)
  clear lx1aa lx1ab lx1ac lx1ad lx2aa lx2ab lx2ac lx2ad cx2ba cx2bb lx2ba lx2bb lx2bc lx2bd
  replace x1a := x1a.b q4
  replace x2a := x2a.b q4
  replace x2b := x2b.b q4
  have lw4 := q4.size
  obtain ⟨lx1aa, lx1ab, lx1ac, lx1ad⟩ := lts0 x1a.lt
  have cx2a := x2a.c2
  obtain ⟨lx2aa, lx2ab, lx2ac, lx2ad⟩ := lts0 x2a.lt
  obtain ⟨cx2ba, cx2bb⟩ := x2b.c2
  obtain ⟨lx2ba, lx2bb, lx2bc, lx2bd⟩ := lts1 x2b.lt
  go_wp2_with fail
  go_region_held3 (fun w' => Sees w4.heap.size w4 w') (first | with_reducible exact Sees.of (Nat.le_refl _) (by assumption) | with_reducible exact Sees.of (Nat.le_refl _) (brefl _).drew | exact Sees.of (Nat.le_refl _) (below_drewN (brefl _) 1) | exact Sees.of (Nat.le_refl _) (below_drewN (by assumption) _))
    (first
      | (go_at_call 137; (with_reducible refine (i_text_l _ b1 A1 n1 c1 ((q).num) ((k)) ?_ X ?_ ?_ ?_).mono ?_); (exact h1.iz); (omega); (first | exact htab.belw bw4 | exact (htab.belw bw4).belw (below_drewN (brefl _) 1) | exact (htab.belw bw4).belw (brefl _).drew | exact (htab.belw bw4).belw (by assumption) | fail); (exact HX.out); rintro e w5 ⟨rfl, hb5⟩; replace hb5 := bnext (below_drewN (brefl _) 1) hb5; have q5 : Below w4.heap.size w4 w5 := bnext (brefl w4) hb5; replace h := h.belw hb5; replace h1 := h1.belw hb5; replace h'1 := h'1.belw hb5; replace h3 := h3.belw hb5)
      | (go_at_call 137; (with_reducible refine (i_text_l _ b'1 A'1 n'1 c'1 (((q).den : Int)) ((k)) ?_ Y ?_ ?_ ?_).mono ?_); (exact h'1.iz); (omega); (first | exact htab.belw bw4 | exact (htab.belw bw4).belw (below_drewN (brefl _) 1) | exact (htab.belw bw4).belw (brefl _).drew | exact (htab.belw bw4).belw (by assumption) | fail); (exact HY.out); rintro e w6 ⟨rfl, hb6⟩; have q6 : Below w4.heap.size w4 w6 := bnext q5 hb6; replace h := h.belw hb6; replace h1 := h1.belw hb6; replace h'1 := h'1.belw hb6; replace h3 := h3.belw hb6))
  have bw6 := bw4.trans (q6.mono bw4.size)
  clear lx1aa lx1ab lx1ac lx1ad cx2a lx2aa lx2ab lx2ac lx2ad cx2ba cx2bb lx2ba lx2bb lx2bc lx2bd
  replace x1a := x1a.b q6
  replace x2a := x2a.b q6
  replace x2b := x2b.b q6
  have lw6 := q6.size
  go_wp2_with fail
  go_ret
  refine ⟨?_, bw6⟩
  exact congrArg (fun x => Ending.returned (.string x)) (cat_slash X Y)
theorem f_text (w : World) (b A n c D m e q k) (h : QZ w b A n c D m e q k) (h0 : 0 < k) (hk : k ≤ 40000000) (htab : Tab w) (T : List UInt8) (hT : ratText q = T) : Calls Tryz.prog 79 #[.agg #[.bool b, .slice A n c, .slice D m e]] w (RetV w (strV T)) := by
  subst hT
  by_cases hd : q.den = 1
  · exact f_text_1 w b A n c D m e q k h h0 hk htab hd
  · exact f_text_2 w b A n c D m e q k h h0 hk htab hd
end Go.Proofs.YtoiijifnfdgfpaaGreatDoor
