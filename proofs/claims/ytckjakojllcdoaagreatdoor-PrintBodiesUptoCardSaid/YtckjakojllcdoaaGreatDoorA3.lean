/- Part A3: lemmas and walks that the claim rests on. No claim is made here. -/
import Derived.BigQuiet
import Derived.Deep.RegionHeld3
import Derived.Deep.DrawnRows
import Derived.Deep.DeepCutAuto
import Derived.Lib.IndexMore
import Derived.Deep.AppendLies
import Derived.Shelf.Strings.Builder1
import Derived.Test.YtckjakojllcdoaaGreatDoorA2
set_option linter.unusedVariables false
set_option maxHeartbeats 8000000
set_option maxRecDepth 100000
/- Tokens: plain. -/
namespace Bn
def isLet (c : UInt8) : Bool := (decide (97 ≤ c.toNat) && decide (c.toNat ≤ 122)) || (decide (65 ≤ c.toNat) && decide (c.toNat ≤ 90))
def isPart (c : UInt8) : Bool := isLet c || isDg c || c == 95
def isSgn (c : UInt8) : Bool := c == 123 || c == 125 || c == 59 || c == 46
def isBlk (c : UInt8) : Bool := c == 32 || c == 9 || c == 13
def wordN : List UInt8 → Nat
  | [] => 0
  | c :: t => if isLet c then 1 + (t.takeWhile isPart).length else 0
def digN (r : List UInt8) : Nat := (r.takeWhile isDg).length
def minN : List UInt8 → Nat
  | 45 :: _ => 1
  | _ => 0
def tailN : List UInt8 → Nat
  | c :: t => if (c == 46 || c == 47) && decide (0 < digN t) then 1 + digN t else 0
  | [] => 0
def numN (r : List UInt8) : Nat := if digN (r.drop (minN r)) = 0 then 0 else minN r + digN (r.drop (minN r)) + tailN (r.drop (minN r + digN (r.drop (minN r))))
def badEnd : List UInt8 → Bool
  | c :: _ => isLet c || c == 95 || c == 46 || c == 47
  | [] => false
inductive First where
  | ok (kind n : Nat)
  | err (x : Nat)
def firstT (r : List UInt8) : First := match r with
  | [] => .err 2
  | c :: _ => if isSgn c then .ok 2 1 else if 0 < wordN r then (if 24 < wordN r then .err 5 else .ok 0 (wordN r))
    else if numN r = 0 then .err 2 else if 60 < numN r then .err 4 else if badEnd (r.drop (numN r)) then .err 2 else .ok 1 (numN r)
structure Tkn where
  kind : Nat
  text : List UInt8
  line : Nat
  col : Nat
deriving DecidableEq
inductive Toks where
  | ok (l : List Tkn)
  | err (x : Nat)
def Toks.push (t : Tkn) : Toks → Toks
  | .ok l => .ok (t :: l)
  | .err x => .err x
def comN (r : List UInt8) : Nat := (r.takeWhile (fun c => c != 10)).length
def toks : Nat → List UInt8 → Nat → Nat → Toks
  | 0, _, _, _ => .ok []
  | _ + 1, [], _, _ => .ok []
  | f + 1, c :: t, line, col =>
    if c = 10 then toks f t (line + 1) 1
    else if isBlk c then toks f t line (col + 1)
    else if c = 37 then toks f ((c :: t).drop (comN (c :: t))) line (col + comN (c :: t))
    else match firstT (c :: t) with
      | .err x => .err x
      | .ok k n => (toks f ((c :: t).drop n) line (col + n)).push ⟨k, (c :: t).take n, line, col⟩
theorem tw_le (p : UInt8 → Bool) (l : List UInt8) : (l.takeWhile p).length ≤ l.length := (List.takeWhile_sublist p).length_le
theorem digN_le (r : List UInt8) : digN r ≤ r.length := tw_le _ _
theorem wordN_le : ∀ (r : List UInt8), wordN r ≤ r.length
  | [] => Nat.le_refl _
  | c :: t => by
    rw [wordN]
    have := tw_le isPart t
    simp only [List.length_cons]
    split <;> omega
theorem tailN_le : ∀ (r : List UInt8), tailN r ≤ r.length
  | [] => Nat.le_refl _
  | c :: t => by
    rw [tailN]
    have := digN_le t
    simp only [List.length_cons]
    split <;> omega
theorem minN_le : ∀ (r : List UInt8), minN r ≤ r.length
  | [] => Nat.le_refl _
  | c :: t => by unfold minN; split <;> simp
theorem numN_le (r : List UInt8) : numN r ≤ r.length := by
  unfold numN
  split
  · omega
  · have h1 := digN_le (r.drop (minN r))
    have h2 := tailN_le (r.drop (minN r + digN (r.drop (minN r))))
    have h3 := minN_le r
    rw [List.length_drop] at h1 h2
    omega
theorem comN_le (r : List UInt8) : comN r ≤ r.length := tw_le _ _
theorem comN_pos {t : List UInt8} : 0 < comN (37 :: t) := by unfold comN; simp
theorem firstT_ok {r : List UInt8} {k n : Nat} (h : firstT r = .ok k n) : 0 < n ∧ n ≤ r.length := by
  unfold firstT at h
  split at h
  · cases h
  · rename_i c t
    split at h
    · injection h with _ h; subst h; simp
    · split at h
      · split at h
        · cases h
        · injection h with _ h; subst h; exact ⟨by assumption, wordN_le _⟩
      · split at h
        · cases h
        · split at h
          · cases h
          · split at h
            · cases h
            · injection h with _ h; subst h; exact ⟨by omega, numN_le _⟩
theorem toks_fuel : ∀ (f g : Nat) (r : List UInt8) (line col : Nat), r.length < f → r.length < g → toks f r line col = toks g r line col := by
  intro f
  induction f with
  | zero => intro g r _ _ h; omega
  | succ f ih =>
    intro g r line col hf hg
    cases g with
    | zero => omega
    | succ g =>
      cases r with
      | nil => rfl
      | cons c t =>
        simp only [List.length_cons] at hf hg
        unfold toks
        split
        · exact ih g t _ _ (by omega) (by omega)
        · split
          · exact ih g t _ _ (by omega) (by omega)
          · split
            · rename_i h37
              subst h37
              have h1 := comN_pos (t := t)
              have h2 := comN_le (37 :: t)
              simp only [List.length_cons] at h2
              exact ih g _ _ _ (by rw [List.length_drop]; simp only [List.length_cons]; omega) (by rw [List.length_drop]; simp only [List.length_cons]; omega)
            · split
              · rfl
              · rename_i k n h
                have h1 := firstT_ok h
                simp only [List.length_cons] at h1
                rw [ih g _ _ _ (by rw [List.length_drop]; simp only [List.length_cons]; omega) (by rw [List.length_drop]; simp only [List.length_cons]; omega)]
def tokens (s : List UInt8) : Toks := toks (s.length + 1) s 1 1
end Bn

/- Tokens of joined texts: plain. -/
namespace Bn
def sepB (c : UInt8) : Bool := c == 32 || c == 9 || c == 10 || c == 13 || c == 37
def SepE (e : List UInt8) : Prop := e = [] ∨ ∃ c t, e = c :: t ∧ sepB c = true
theorem sepB_not {c : UInt8} (h : sepB c = true) : isPart c = false ∧ isDg c = false ∧ (c == 46) = false ∧ (c == 47) = false ∧ isLet c = false ∧ (c == 95) = false := by
  unfold sepB at h
  simp only [Bool.or_eq_true, beq_iff_eq] at h
  rcases h with (((h | h) | h) | h) | h <;> subst h <;> decide
theorem tw_all {p : UInt8 → Bool} : ∀ (l : List UInt8), (l.takeWhile p).all p = true := by
  intro l
  induction l with
  | nil => rfl
  | cons x r ih =>
    rw [List.takeWhile_cons]
    split
    · rename_i h; rw [List.all_cons, h, ih]; rfl
    · rfl
theorem tw_app {p : UInt8 → Bool} : ∀ {a : List UInt8} (e : List UInt8), a.all p = true → (∀ c t, e = c :: t → p c = false) → (a ++ e).takeWhile p = a := by
  intro a
  induction a with
  | nil =>
    intro e _ he
    cases e with
    | nil => rfl
    | cons c t => rw [List.nil_append, List.takeWhile_cons, he c t rfl]; rfl
  | cons x r ih =>
    intro e h he
    rw [List.all_cons, Bool.and_eq_true] at h
    rw [List.cons_append, List.takeWhile_cons, h.1, if_pos rfl, ih e h.2 he]
theorem tw_split (p : UInt8 → Bool) (l : List UInt8) : ∃ d, l = l.takeWhile p ++ d ∧ (∀ c t, d = c :: t → p c = false) := by
  refine ⟨l.dropWhile p, (List.takeWhile_append_dropWhile).symm, fun c t h => ?_⟩
  induction l with
  | nil => simp at h
  | cons x r ih =>
    rw [List.dropWhile_cons] at h
    split at h
    · exact ih h
    · injection h with h1 _; subst h1; simp_all
theorem SepE.np {e : List UInt8} (h : SepE e) (c : UInt8) (t : List UInt8) (he : e = c :: t) : sepB c = true := by
  rcases h with h | ⟨c', t', h, hs⟩
  · rw [h] at he; cases he
  · rw [h] at he; injection he with h1 _; rw [← h1]; exact hs
theorem dg_no10 {l : List UInt8} (h : l.all isDg = true) : 10 ∉ l := fun h1 => by
  rw [List.all_eq_true] at h
  exact absurd (h 10 h1) (by decide)
theorem tail_form (r : List UInt8) : ∃ M d, r = M ++ d ∧ tailN r = M.length ∧ 10 ∉ M ∧ ∀ e, SepE e → tailN (M ++ e) = M.length ∧ (∀ c t, M ++ e = c :: t → isDg c = false) := by
  have hs : ∀ e, SepE e → tailN ([] ++ e) = 0 ∧ (∀ c t, ([] : List UInt8) ++ e = c :: t → isDg c = false) := by
    intro e he
    rw [List.nil_append]
    refine ⟨?_, fun c t h => (sepB_not (he.np c t h)).2.1⟩
    cases e with
    | nil => rfl
    | cons c t =>
      have := sepB_not (he.np c t rfl)
      rw [tailN, this.2.2.1, this.2.2.2.1]; rfl
  cases r with
  | nil => exact ⟨[], [], rfl, rfl, by simp, hs⟩
  | cons c t =>
    by_cases h : ((c == 46 || c == 47) && decide (0 < digN t)) = true
    · obtain ⟨d, h1, h2⟩ := tw_split isDg t
      have h3 : (c == 46 || c == 47) = true := by rw [Bool.and_eq_true] at h; exact h.1
      have h4 : 0 < digN t := by rw [Bool.and_eq_true, decide_eq_true_eq] at h; exact h.2
      refine ⟨c :: t.takeWhile isDg, d, by rw [List.cons_append, ← h1], ?_, ?_, ?_⟩
      · rw [tailN, h, if_pos rfl, List.length_cons]; unfold digN; omega
      · intro h6
        rcases List.mem_cons.1 h6 with e | e
        · subst e; exact absurd h3 (by decide)
        · exact dg_no10 (tw_all t) e
      · intro e he
        have h5 : digN (t.takeWhile isDg ++ e) = (t.takeWhile isDg).length := by
          unfold digN
          rw [tw_app e (tw_all t) (fun c t h => (sepB_not (he.np c t h)).2.1)]
        refine ⟨?_, fun c' t' h' => ?_⟩
        · rw [List.cons_append, tailN, h5, h3]
          have : 0 < (t.takeWhile isDg).length := h4
          rw [if_pos (by simp; exact this), List.length_cons]; omega
        · injection h' with h6 _
          subst h6
          rw [Bool.or_eq_true, beq_iff_eq, beq_iff_eq] at h3
          rcases h3 with e | e <;> subst e <;> decide
    · have h' : ((c == 46 || c == 47) && decide (0 < digN t)) = false := by simpa using h
      exact ⟨[], c :: t, rfl, by rw [tailN, h']; rfl, by simp, hs⟩
theorem minN_digit {c : UInt8} {t : List UInt8} (h : isDg c = true) : minN (c :: t) = 0 := by
  unfold minN
  split
  · rename_i h1; injection h1 with h1 _; subst h1; exact absurd h (by decide)
  · rfl
theorem num_form {r : List UInt8} (h : 0 < numN r) : ∃ P d c t, r = P ++ d ∧ P.length = numN r ∧ P = c :: t ∧ (isDg c = true ∨ c = 45) ∧ 10 ∉ P ∧ ∀ e, SepE e → numN (P ++ e) = P.length := by
  have hk : 0 < digN (r.drop (minN r)) := by
    rcases Nat.eq_zero_or_pos (digN (r.drop (minN r))) with e | e
    · unfold numN at h; rw [if_pos e] at h; omega
    · exact e
  obtain ⟨d0, e0, g0⟩ := tw_split isDg (r.drop (minN r))
  obtain ⟨D, hD⟩ : ∃ D, (r.drop (minN r)).takeWhile isDg = D := ⟨_, rfl⟩
  have hDa : D.all isDg = true := by rw [← hD]; exact tw_all _
  have hDl : digN (r.drop (minN r)) = D.length := by unfold digN; rw [hD]
  rw [hD] at e0
  rw [hDl] at hk
  obtain ⟨x, D', hx⟩ : ∃ x D', D = x :: D' := by
    cases D with
    | nil => simp at hk
    | cons x D' => exact ⟨x, D', rfl⟩
  have hxd : isDg x = true := by rw [hx, List.all_cons, Bool.and_eq_true] at hDa; exact hDa.1
  have hdd : (r.drop (minN r)).drop D.length = d0 := by rw [e0]; simp
  obtain ⟨M, d, e1, e2, e10, e3⟩ := tail_form d0
  have hn : numN r = minN r + D.length + M.length := by
    unfold numN
    rw [hDl, if_neg (by omega), ← List.drop_drop, hdd, e2]
  have hmin : (minN r = 0 ∧ r = D ++ d0) ∨ (minN r = 1 ∧ r = 45 :: (D ++ d0)) := by
    cases r with
    | nil => simp [minN] at e0; left; exact ⟨rfl, by simpa using e0⟩
    | cons c t =>
      by_cases hc : c = 45
      · subst hc; right; refine ⟨rfl, ?_⟩
        have : minN (45 :: t) = 1 := rfl
        rw [this] at e0
        simp at e0
        rw [← e0]
      · left
        have : minN (c :: t) = 0 := by
          unfold minN; split
          · rename_i h1; injection h1 with h1 _; exact absurd h1 hc
          · rfl
        refine ⟨this, ?_⟩
        rw [this] at e0
        simpa using e0
  have key : ∀ e, SepE e → digN (D ++ (M ++ e)) = D.length ∧ tailN (M ++ e) = M.length := by
    intro e he
    obtain ⟨h1, h2⟩ := e3 e he
    refine ⟨?_, h1⟩
    unfold digN
    rw [tw_app (M ++ e) hDa h2]
  rcases hmin with ⟨m0, hr⟩ | ⟨m1, hr⟩
  · refine ⟨D ++ M, d, x, D' ++ M, by rw [hr, e1, List.append_assoc], by rw [hn, m0, List.length_append]; omega, by rw [hx]; rfl, .inl hxd, fun h => by rcases List.mem_append.1 h with h | h; exact dg_no10 hDa h; exact e10 h, fun e he => ?_⟩
    obtain ⟨h1, h2⟩ := key e he
    have hm : minN (D ++ M ++ e) = 0 := by rw [hx]; exact minN_digit hxd
    unfold numN
    rw [hm, List.drop_zero, List.append_assoc, h1, if_neg (by omega), Nat.zero_add, List.drop_left, h2, List.length_append]
  · refine ⟨45 :: (D ++ M), d, 45, D ++ M, by rw [hr, e1, List.cons_append, List.append_assoc], by rw [hn, m1, List.length_cons, List.length_append]; omega, rfl, .inr rfl, fun h => by rcases List.mem_cons.1 h with h | h; exact absurd h (by decide); rcases List.mem_append.1 h with h | h; exact dg_no10 hDa h; exact e10 h, fun e he => ?_⟩
    obtain ⟨h1, h2⟩ := key e he
    have hm : minN (45 :: (D ++ M) ++ e) = 1 := rfl
    unfold numN
    rw [hm]
    rw [show (45 :: (D ++ M) ++ e).drop 1 = D ++ (M ++ e) by simp]
    rw [h1, if_neg (by omega), ← List.drop_drop]
    rw [show (45 :: (D ++ M) ++ e).drop 1 = D ++ (M ++ e) by simp]
    rw [List.drop_left, h2, List.length_cons, List.length_append]
    omega
theorem first_no10 {r : List UInt8} {k n : Nat} (h : firstT r = .ok k n) : 10 ∉ r.take n := by
  unfold firstT at h
  split at h
  · cases h
  · rename_i c t
    split at h
    · rename_i hs
      injection h with h1 h2; subst h2
      intro h3
      have h4 : (10 : UInt8) = c := by simpa using h3
      subst h4; exact absurd hs (by decide)
    · split at h
      · rename_i hw
        split at h
        · cases h
        · injection h with h1 h2
          have hl : isLet c = true := by
            rw [wordN] at hw; split at hw
            · assumption
            · omega
          have hwn : wordN (c :: t) = 1 + (t.takeWhile isPart).length := by rw [wordN, hl, if_pos rfl]
          obtain ⟨d, e1, _⟩ := tw_split isPart t
          have ht : (c :: t).take n = c :: t.takeWhile isPart := by
            rw [← h2, hwn, Nat.add_comm, List.take_succ_cons]
            congr 1
            exact (congrArg (List.take _) e1).trans List.take_left
          rw [ht]
          intro h3
          rcases List.mem_cons.1 h3 with e | e
          · subst e; exact absurd hl (by decide)
          · have := tw_all (p := isPart) t
            rw [List.all_eq_true] at this
            exact absurd (this 10 e) (by decide)
      · split at h
        · cases h
        · rename_i hn0
          split at h
          · cases h
          · split at h
            · cases h
            · injection h with h1 h2
              obtain ⟨P, d, x, P', e1, e2, e3, e4, e10, e5⟩ := num_form (Nat.pos_of_ne_zero hn0)
              have hP : (c :: t).take n = P := by rw [← h2, ← e2, e1]; exact List.take_left
              rw [hP]; exact e10
end Bn

/- Tokens of joined texts, blanks and comments between them: plain. -/
namespace Bn
def tk (r : List UInt8) (line col : Nat) : Toks := toks (r.length + 1) r line col
theorem tk_nil (line col : Nat) : tk [] line col = .ok [] := rfl
theorem tk_line (t : List UInt8) (line col : Nat) : tk (10 :: t) line col = tk t (line + 1) 1 := by
  unfold tk
  rw [List.length_cons]
  conv => lhs; unfold toks
  rw [if_pos rfl]
theorem isBlk_not {c : UInt8} (h : isBlk c = true) : c ≠ 10 := by
  rintro rfl; exact absurd h (by decide)
theorem tk_blank {c : UInt8} (h : isBlk c = true) (t : List UInt8) (line col : Nat) : tk (c :: t) line col = tk t line (col + 1) := by
  unfold tk
  rw [List.length_cons]
  conv => lhs; unfold toks
  rw [if_neg (isBlk_not h), if_pos h]
theorem tk_com (t : List UInt8) (line col : Nat) : tk (37 :: t) line col = tk ((37 :: t).drop (comN (37 :: t))) line (col + comN (37 :: t)) := by
  have h1 := comN_pos (t := t)
  have h2 := comN_le (37 :: t)
  unfold tk
  conv => lhs; rw [List.length_cons]; unfold toks
  rw [if_neg (by decide), if_neg (by decide), if_pos rfl]
  simp only [List.length_cons] at h2
  refine toks_fuel _ _ _ _ _ ?_ ?_ <;> rw [List.length_drop, List.length_cons] <;> omega
theorem firstT_head {c : UInt8} {t : List UInt8} {k n : Nat} (h : firstT (c :: t) = .ok k n) : c ≠ 10 ∧ isBlk c = false ∧ c ≠ 37 := by
  have key : ∀ c : UInt8, isSgn c = false → isLet c = false → isDg c = false → c ≠ 45 → ∀ t k n, firstT (c :: t) ≠ .ok k n := by
    intro c h1 h2 h3 h4 t k n h
    have hw : wordN (c :: t) = 0 := by rw [wordN, h2]; rfl
    have hm : minN (c :: t) = 0 := by
      unfold minN; split
      · rename_i h5; injection h5 with h5 _; exact absurd h5 h4
      · rfl
    have hn : numN (c :: t) = 0 := by
      unfold numN
      rw [hm, List.drop_zero, if_pos (by unfold digN; rw [List.takeWhile_cons, h3]; rfl)]
    unfold firstT at h
    simp [h1, hw, hn] at h
  refine ⟨?_, ?_, ?_⟩
  · rintro rfl; exact key 10 (by decide) (by decide) (by decide) (by decide) t k n h
  · cases hb : isBlk c
    · rfl
    · exfalso
      unfold isBlk at hb
      simp only [Bool.or_eq_true, beq_iff_eq] at hb
      rcases hb with (e | e) | e <;> subst e
      · exact key 32 (by decide) (by decide) (by decide) (by decide) t k n h
      · exact key 9 (by decide) (by decide) (by decide) (by decide) t k n h
      · exact key 13 (by decide) (by decide) (by decide) (by decide) t k n h
  · rintro rfl; exact key 37 (by decide) (by decide) (by decide) (by decide) t k n h
theorem tk_tok {c : UInt8} {t : List UInt8} {k n : Nat} (h : firstT (c :: t) = .ok k n) (line col : Nat) :
    tk (c :: t) line col = (tk ((c :: t).drop n) line (col + n)).push ⟨k, (c :: t).take n, line, col⟩ := by
  obtain ⟨h1, h2, h3⟩ := firstT_head h
  have h4 := firstT_ok h
  unfold tk
  conv => lhs; rw [List.length_cons]; unfold toks
  rw [if_neg h1, if_neg (by rw [h2]; simp), if_neg h3, h]
  simp only [List.length_cons] at h4
  dsimp only
  rw [toks_fuel (t.length + 1) (((c :: t).drop n).length + 1) _ _ _ (by rw [List.length_drop, List.length_cons]; omega) (by omega)]
theorem tk_err {c : UInt8} {t : List UInt8} {x : Nat} (h : firstT (c :: t) = .err x) (h1 : c ≠ 10) (h2 : isBlk c = false) (h3 : c ≠ 37) (line col : Nat) : tk (c :: t) line col = .err x := by
  unfold tk
  rw [List.length_cons]
  unfold toks
  rw [if_neg h1, if_neg (by rw [h2]; simp), if_neg h3, h]
def Skip (s : List UInt8) : Prop := ∀ rest line col, ∃ line' col', tk (s ++ rest) line col = tk rest line' col'
theorem Skip.nil : Skip [] := fun _ line col => ⟨line, col, rfl⟩
theorem Skip.line {s : List UInt8} (h : Skip s) : Skip (10 :: s) := fun rest line col => by
  obtain ⟨a, b, e⟩ := h rest (line + 1) 1
  exact ⟨a, b, by rw [List.cons_append, tk_line, e]⟩
theorem Skip.blank {c : UInt8} {s : List UInt8} (hc : isBlk c = true) (h : Skip s) : Skip (c :: s) := fun rest line col => by
  obtain ⟨a, b, e⟩ := h rest line (col + 1)
  exact ⟨a, b, by rw [List.cons_append, tk_blank hc, e]⟩
def shape : Toks → Option (List (Nat × List UInt8))
  | .ok l => some (l.map fun t => (t.kind, t.text))
  | .err _ => none
end Bn

/- Every token stands at its place: plain. -/
namespace Bn
def After (line col : Nat) (t : Tkn) : Prop := line < t.line ∨ (line = t.line ∧ col ≤ t.col)
theorem After.mono {line col col' : Nat} {t : Tkn} (h : After line col' t) (hc : col ≤ col') : After line col t := by
  rcases h with h | ⟨h, h1⟩
  · exact .inl h
  · exact .inr ⟨h, Nat.le_trans hc h1⟩
theorem toks_after : ∀ (f : Nat) (r : List UInt8) (line col : Nat) (l : List Tkn), toks f r line col = .ok l → ∀ t ∈ l, After line col t := by
  intro f
  induction f with
  | zero => intro r line col l h t ht; unfold toks at h; injection h with h; subst h; cases ht
  | succ f ih =>
    intro r line col l h t ht
    cases r with
    | nil => unfold toks at h; injection h with h; subst h; cases ht
    | cons c s =>
      unfold toks at h
      split at h
      · rcases ih _ _ _ _ h t ht with e | ⟨e, _⟩
        · exact .inl (by omega)
        · exact .inl (by omega)
      · split at h
        · exact (ih _ _ _ _ h t ht).mono (by omega)
        · split at h
          · exact (ih _ _ _ _ h t ht).mono (by omega)
          · split at h
            · cases h
            · rename_i k n hf
              cases hx : toks f ((c :: s).drop n) line (col + n) with
              | err x => rw [hx] at h; cases h
              | ok l' =>
                rw [hx] at h
                injection h with h
                subst h
                rcases List.mem_cons.1 ht with e | e
                · subst e; exact .inr ⟨rfl, Nat.le_refl _⟩
                · exact (ih _ _ _ _ hx t e).mono (by omega)
def PlI (s : List UInt8) (l : List Tkn) (i line col k left : Nat) : Prop := k ≤ l.length ∧ ∃ u rest, s.drop i = u ++ rest ∧ 10 ∉ u ∧ tk rest line (col + u.length) = .ok (l.drop k) ∧ (left = u.length ∨ left = 0)
theorem PlI.start {s : List UInt8} {l : List Tkn} (h : tokens s = .ok l) : PlI s l 0 1 1 0 0 := ⟨Nat.zero_le _, [], s, rfl, by simp, h, .inr rfl⟩
theorem PlI.fin {s : List UInt8} {l : List Tkn} {line col k left : Nat} (h : PlI s l s.length line col k left) : k = l.length := by
  obtain ⟨hk, u, rest, h1, _, h2, _⟩ := h
  rw [List.drop_length] at h1
  have h3 := List.append_eq_nil_iff.1 h1.symm
  rw [h3.2, tk_nil] at h2
  injection h2 with h2
  have := congrArg List.length h2
  rw [List.length_drop] at this
  simp at this; omega
def meets (l : List Tkn) (line col k left : Nat) : Bool := decide (left = 0) && (match l[k]? with | some t => decide (t.line = line) && decide (t.col = col) | none => false)
def nextLine (c : UInt8) (line : Nat) : Nat := if c = 10 then line + 1 else line
def nextCol (c : UInt8) (col : Nat) : Nat := if c = 10 then 1 else col + 1
theorem meets_no {l : List Tkn} {line col k left : Nat} {line' col' : Nat} (h : ∀ t ∈ l.drop k, After line' col' t) (hp : line < line' ∨ (line = line' ∧ col < col')) : meets l line col k left = false := by
  unfold meets
  cases hk : l[k]? with
  | none => simp
  | some t =>
    have hm : t ∈ l.drop k := by
      obtain ⟨h1, h2⟩ := List.getElem?_eq_some_iff.1 hk
      rw [List.drop_eq_getElem_cons h1, h2]; simp
    have := h t hm
    have h3 : ¬ (t.line = line ∧ t.col = col) := by
      rintro ⟨a, b⟩
      rcases this with e | ⟨e, e2⟩ <;> rcases hp with g | ⟨g, g2⟩ <;> omega
    simp only [Bool.and_eq_false_iff, decide_eq_false_iff_not]
    right
    by_cases ha : t.line = line
    · right; exact fun hb => h3 ⟨ha, hb⟩
    · left; exact ha
theorem PlI.inner {s : List UInt8} {l : List Tkn} {i line col k left : Nat} {c : UInt8} {t u rest : List UInt8} (hk : k ≤ l.length) (hd : s.drop i = c :: t) (h1 : s.drop i = u ++ rest) (hu : 10 ∉ u) (h2 : tk rest line (col + u.length) = .ok (l.drop k)) (h3 : left = u.length ∨ left = 0) (hne : u ≠ []) :
    meets l line col k left = false ∧ PlI s l (i + 1) (nextLine c line) (nextCol c col) k (left - 1) := by
  obtain ⟨x, u', rfl⟩ := List.exists_cons_of_ne_nil hne
  have hx : x = c ∧ t = u' ++ rest := by rw [hd] at h1; injection h1 with a b; exact ⟨a.symm, b⟩
  obtain ⟨rfl, ht⟩ := hx
  have hx10 : x ≠ 10 := fun e => hu (by rw [e]; simp)
  rw [List.length_cons] at h2 h3
  have hd1 : s.drop (i + 1) = t := by rw [← List.drop_drop, hd]; rfl
  refine ⟨meets_no (toks_after _ _ _ _ _ h2) (.inr ⟨rfl, by omega⟩), hk, u', rest, by rw [hd1, ht], fun h => hu (by simp [h]), ?_, by omega⟩
  unfold nextLine nextCol
  rw [if_neg hx10, if_neg hx10, show col + 1 + u'.length = col + (u'.length + 1) by omega]
  exact h2
theorem PlI.step {s : List UInt8} {l : List Tkn} {i line col k left : Nat} (h : PlI s l i line col k left) {c : UInt8} {t : List UInt8} (hd : s.drop i = c :: t) :
    (meets l line col k left = false ∧ PlI s l (i + 1) (nextLine c line) (nextCol c col) k (left - 1)) ∨
    (meets l line col k left = true ∧ ∃ x, l[k]? = some x ∧ 0 < x.text.length ∧ i + x.text.length ≤ s.length ∧ (s.drop i).take x.text.length = x.text ∧ PlI s l (i + 1) (nextLine c line) (nextCol c col) (k + 1) (x.text.length - 1)) := by
  obtain ⟨hk, u, rest, h1, hu, h2, h3⟩ := h
  by_cases hne : u = []
  · subst hne
    rw [List.nil_append] at h1
    rw [List.length_nil, Nat.add_zero] at h2
    have hl0 : left = 0 := by rcases h3 with e | e <;> simpa using e
    subst hl0
    have hd1 : s.drop (i + 1) = t := by rw [← List.drop_drop, hd]; rfl
    have hr : rest = c :: t := by rw [← h1, hd]
    subst hr
    by_cases h10 : c = 10
    · subst h10
      rw [tk_line] at h2
      left
      refine ⟨meets_no (toks_after _ _ _ _ _ h2) (.inl (by omega)), hk, [], t, by rw [hd1]; rfl, by simp, ?_, .inr rfl⟩
      exact h2
    · by_cases hb : isBlk c = true
      · rw [tk_blank hb] at h2
        left
        refine ⟨meets_no (toks_after _ _ _ _ _ h2) (.inr ⟨rfl, by omega⟩), hk, [], t, by rw [hd1]; rfl, by simp, ?_, .inr rfl⟩
        unfold nextLine nextCol
        rw [if_neg h10, if_neg h10]
        exact h2
      · by_cases h37 : c = 37
        · subst h37
          rw [tk_com] at h2
          left
          have hp := comN_pos (t := t)
          have hle := comN_le (37 :: t)
          have hlen : ((37 :: t).take (comN (37 :: t))).length = comN (37 :: t) := by rw [List.length_take]; omega
          refine PlI.inner hk hd (h1.trans (List.take_append_drop _ _).symm) ?_ (by rw [hlen]; exact h2) (.inr rfl) (fun e => by rw [e] at hlen; simp at hlen; omega)
          intro hm
          have : (37 :: t).take (comN (37 :: t)) = (37 :: t).takeWhile (fun c => c != 10) := by
            obtain ⟨d, e, _⟩ := tw_split (fun c => c != 10) (37 :: t)
            exact (congrArg (List.take _) e).trans List.take_left
          rw [this] at hm
          have h4 := tw_all (p := fun c => c != 10) (37 :: t)
          rw [List.all_eq_true] at h4
          exact absurd (h4 10 hm) (by decide)
        · cases hf : firstT (c :: t) with
          | err x => rw [tk_err hf h10 (by simpa using hb) h37] at h2; cases h2
          | ok kk n =>
            rw [tk_tok hf] at h2
            have hn := firstT_ok hf
            cases hx : tk ((c :: t).drop n) line (col + n) with
            | err x => rw [hx] at h2; cases h2
            | ok l' =>
              rw [hx] at h2
              injection h2 with h2
              have hkl : k < l.length := by
                rcases Nat.lt_or_ge k l.length with e | e
                · exact e
                · rw [List.drop_eq_nil_of_le e] at h2; cases h2
              rw [List.drop_eq_getElem_cons hkl] at h2
              injection h2 with h4 h5
              have hlt : ((c :: t).take n).length = n := by rw [List.length_take]; omega
              right
              have hg : l[k]? = some ⟨kk, (c :: t).take n, line, col⟩ := by rw [List.getElem?_eq_getElem hkl, h4]
              have hlen : i + n ≤ s.length := by
                have := congrArg List.length hd
                rw [List.length_drop] at this
                have h7 : (c :: t).length ≤ s.length - i := by omega
                have h8 : 0 < (c :: t).length := by simp
                omega
              refine ⟨?_, ⟨kk, (c :: t).take n, line, col⟩, hg, by dsimp only; omega, by dsimp only; omega, by dsimp only; rw [hlt, hd], ?_⟩
              · unfold meets; rw [hg]; simp
              · dsimp only
                rw [hlt]
                obtain ⟨m, rfl⟩ : ∃ m, n = m + 1 := ⟨n - 1, by omega⟩
                have hno := first_no10 hf
                rw [List.take_succ_cons] at hno
                refine ⟨by omega, t.take m, t.drop m, by rw [hd1, List.take_append_drop], fun h => hno (by simp [h]), ?_, .inl ?_⟩
                · unfold nextLine nextCol
                  rw [if_neg h10, if_neg h10]
                  have hm : (t.take m).length = m := by rw [List.length_take]; simp at hn; omega
                  rw [hm, ← h5]
                  rw [List.drop_succ_cons] at hx
                  rw [show col + 1 + m = col + (m + 1) by omega]
                  exact hx
                · rw [List.length_take]; simp at hn; omega
  · exact .inl (PlI.inner hk hd h1 hu h2 h3 hne)
end Bn

/- Walks: tokens: what a byte is. -/
namespace Go.Proofs.YtckjakojllcdoaaGreatDoor
open Go Go.RowKit Bn
attribute [local go_sem ↓] Go.wp_at_zero Go.wp_at_succ
theorem isLet_nat (c : UInt8) : isLet c = ((decide (97 ≤ c.toNat) && decide (c.toNat ≤ 122)) || (decide (65 ≤ c.toNat) && decide (c.toNat ≤ 90))) := rfl
theorem isDg_nat (c : UInt8) : isDg c = (decide (48 ≤ c.toNat) && decide (c.toNat ≤ 57)) := rfl
theorem t_letter (w : World) (c : UInt8) (v : Bool) (hv : isLet c = v) : Calls Tryz.prog 95 #[.int .u8 (c.toNat : Nat)] w (RetV w (.bool v)) := by
 have hc : c.toNat < 256 := c.toNat_lt
 obtain ⟨n, hn⟩ : ∃ n, c.toNat = n := ⟨_, rfl⟩
 rw [hn] at hc ⊢
 have hd : v = ((decide (97 ≤ n) && decide (n ≤ 122)) || (decide (65 ≤ n) && decide (n ≤ 90))) := by rw [← hv, isLet_nat, hn]
 clear hv
 rcases (show (0 ≤ n ∧ n ≤ 64) ∨ (65 ≤ n ∧ n ≤ 90) ∨ (91 ≤ n ∧ n ≤ 96) ∨ (97 ≤ n ∧ n ≤ 122) ∨ (123 ≤ n ∧ n ≤ 255) by omega) with ⟨ha, hb⟩ | ⟨ha, hb⟩ | ⟨ha, hb⟩ | ⟨ha, hb⟩ | ⟨ha, hb⟩
 ·have ege97 : ((97 : Int) ≤ (n : Int)) = False := by simp; omega
  have ele122 : ((n : Int) ≤ 122) = True := by simp; omega
  have ege65 : ((65 : Int) ≤ (n : Int)) = False := by simp; omega
  have ele90 : ((n : Int) ≤ 90) = True := by simp; omega
  obtain rfl : v = false := by rw [hd]; simp; omega
  clear hd hn
  go_enter Tryz.func95, Tryz.ntmps95
  go_wp2_with fail
  go_ret
  exact retB rfl (brefl w)
 ·have ege97 : ((97 : Int) ≤ (n : Int)) = False := by simp; omega
  have ele122 : ((n : Int) ≤ 122) = True := by simp; omega
  have ege65 : ((65 : Int) ≤ (n : Int)) = True := by simp; omega
  have ele90 : ((n : Int) ≤ 90) = True := by simp; omega
  obtain rfl : v = true := by rw [hd]; simp; omega
  clear hd hn
  go_enter Tryz.func95, Tryz.ntmps95
  go_wp2_with fail
  go_ret
  exact retB rfl (brefl w)
 ·have ege97 : ((97 : Int) ≤ (n : Int)) = False := by simp; omega
  have ele122 : ((n : Int) ≤ 122) = True := by simp; omega
  have ege65 : ((65 : Int) ≤ (n : Int)) = True := by simp; omega
  have ele90 : ((n : Int) ≤ 90) = False := by simp; omega
  obtain rfl : v = false := by rw [hd]; simp; omega
  clear hd hn
  go_enter Tryz.func95, Tryz.ntmps95
  go_wp2_with fail
  go_ret
  exact retB rfl (brefl w)
 ·have ege97 : ((97 : Int) ≤ (n : Int)) = True := by simp; omega
  have ele122 : ((n : Int) ≤ 122) = True := by simp; omega
  have ege65 : ((65 : Int) ≤ (n : Int)) = True := by simp; omega
  have ele90 : ((n : Int) ≤ 90) = False := by simp; omega
  obtain rfl : v = true := by rw [hd]; simp; omega
  clear hd hn
  go_enter Tryz.func95, Tryz.ntmps95
  go_wp2_with fail
  go_ret
  exact retB rfl (brefl w)
 ·have ege97 : ((97 : Int) ≤ (n : Int)) = True := by simp; omega
  have ele122 : ((n : Int) ≤ 122) = False := by simp; omega
  have ege65 : ((65 : Int) ≤ (n : Int)) = True := by simp; omega
  have ele90 : ((n : Int) ≤ 90) = False := by simp; omega
  obtain rfl : v = false := by rw [hd]; simp; omega
  clear hd hn
  go_enter Tryz.func95, Tryz.ntmps95
  go_wp2_with fail
  go_ret
  exact retB rfl (brefl w)
theorem r_letter (w : World) (c : UInt8) (v : Bool) (hv : isLet c = v) : Calls Tryz.prog 101 #[.int .u8 (c.toNat : Nat)] w (RetV w (.bool v)) := by
 have hc : c.toNat < 256 := c.toNat_lt
 obtain ⟨n, hn⟩ : ∃ n, c.toNat = n := ⟨_, rfl⟩
 rw [hn] at hc ⊢
 have hd : v = ((decide (97 ≤ n) && decide (n ≤ 122)) || (decide (65 ≤ n) && decide (n ≤ 90))) := by rw [← hv, isLet_nat, hn]
 clear hv
 rcases (show (0 ≤ n ∧ n ≤ 64) ∨ (65 ≤ n ∧ n ≤ 90) ∨ (91 ≤ n ∧ n ≤ 96) ∨ (97 ≤ n ∧ n ≤ 122) ∨ (123 ≤ n ∧ n ≤ 255) by omega) with ⟨ha, hb⟩ | ⟨ha, hb⟩ | ⟨ha, hb⟩ | ⟨ha, hb⟩ | ⟨ha, hb⟩
 ·have ege97 : ((97 : Int) ≤ (n : Int)) = False := by simp; omega
  have ele122 : ((n : Int) ≤ 122) = True := by simp; omega
  have ege65 : ((65 : Int) ≤ (n : Int)) = False := by simp; omega
  have ele90 : ((n : Int) ≤ 90) = True := by simp; omega
  obtain rfl : v = false := by rw [hd]; simp; omega
  clear hd hn
  go_enter Tryz.func101, Tryz.ntmps101
  go_wp2_with fail
  go_ret
  exact retB rfl (brefl w)
 ·have ege97 : ((97 : Int) ≤ (n : Int)) = False := by simp; omega
  have ele122 : ((n : Int) ≤ 122) = True := by simp; omega
  have ege65 : ((65 : Int) ≤ (n : Int)) = True := by simp; omega
  have ele90 : ((n : Int) ≤ 90) = True := by simp; omega
  obtain rfl : v = true := by rw [hd]; simp; omega
  clear hd hn
  go_enter Tryz.func101, Tryz.ntmps101
  go_wp2_with fail
  go_ret
  exact retB rfl (brefl w)
 ·have ege97 : ((97 : Int) ≤ (n : Int)) = False := by simp; omega
  have ele122 : ((n : Int) ≤ 122) = True := by simp; omega
  have ege65 : ((65 : Int) ≤ (n : Int)) = True := by simp; omega
  have ele90 : ((n : Int) ≤ 90) = False := by simp; omega
  obtain rfl : v = false := by rw [hd]; simp; omega
  clear hd hn
  go_enter Tryz.func101, Tryz.ntmps101
  go_wp2_with fail
  go_ret
  exact retB rfl (brefl w)
 ·have ege97 : ((97 : Int) ≤ (n : Int)) = True := by simp; omega
  have ele122 : ((n : Int) ≤ 122) = True := by simp; omega
  have ege65 : ((65 : Int) ≤ (n : Int)) = True := by simp; omega
  have ele90 : ((n : Int) ≤ 90) = False := by simp; omega
  obtain rfl : v = true := by rw [hd]; simp; omega
  clear hd hn
  go_enter Tryz.func101, Tryz.ntmps101
  go_wp2_with fail
  go_ret
  exact retB rfl (brefl w)
 ·have ege97 : ((97 : Int) ≤ (n : Int)) = True := by simp; omega
  have ele122 : ((n : Int) ≤ 122) = False := by simp; omega
  have ege65 : ((65 : Int) ≤ (n : Int)) = True := by simp; omega
  have ele90 : ((n : Int) ≤ 90) = False := by simp; omega
  obtain rfl : v = false := by rw [hd]; simp; omega
  clear hd hn
  go_enter Tryz.func101, Tryz.ntmps101
  go_wp2_with fail
  go_ret
  exact retB rfl (brefl w)
theorem t_digit (w : World) (c : UInt8) (v : Bool) (hv : isDg c = v) : Calls Tryz.prog 119 #[.int .u8 (c.toNat : Nat)] w (RetV w (.bool v)) := by
 have hc : c.toNat < 256 := c.toNat_lt
 obtain ⟨n, hn⟩ : ∃ n, c.toNat = n := ⟨_, rfl⟩
 rw [hn] at hc ⊢
 have hd : v = (decide (48 ≤ n) && decide (n ≤ 57)) := by rw [← hv, isDg_nat, hn]
 clear hv
 rcases (show (0 ≤ n ∧ n ≤ 47) ∨ (48 ≤ n ∧ n ≤ 57) ∨ (58 ≤ n ∧ n ≤ 255) by omega) with ⟨ha, hb⟩ | ⟨ha, hb⟩ | ⟨ha, hb⟩
 ·have ege48 : ((48 : Int) ≤ (n : Int)) = False := by simp; omega
  have ele57 : ((n : Int) ≤ 57) = True := by simp; omega
  obtain rfl : v = false := by rw [hd]; simp; omega
  clear hd hn
  go_enter Tryz.func119, Tryz.ntmps119
  go_wp2_with fail
  go_ret
  exact retB rfl (brefl w)
 ·have ege48 : ((48 : Int) ≤ (n : Int)) = True := by simp; omega
  have ele57 : ((n : Int) ≤ 57) = True := by simp; omega
  obtain rfl : v = true := by rw [hd]; simp; omega
  clear hd hn
  go_enter Tryz.func119, Tryz.ntmps119
  go_wp2_with fail
  go_ret
  exact retB rfl (brefl w)
 ·have ege48 : ((48 : Int) ≤ (n : Int)) = True := by simp; omega
  have ele57 : ((n : Int) ≤ 57) = False := by simp; omega
  obtain rfl : v = false := by rw [hd]; simp; omega
  clear hd hn
  go_enter Tryz.func119, Tryz.ntmps119
  go_wp2_with fail
  go_ret
  exact retB rfl (brefl w)
theorem r_digit (w : World) (c : UInt8) (v : Bool) (hv : isDg c = v) : Calls Tryz.prog 103 #[.int .u8 (c.toNat : Nat)] w (RetV w (.bool v)) := by
 have hc : c.toNat < 256 := c.toNat_lt
 obtain ⟨n, hn⟩ : ∃ n, c.toNat = n := ⟨_, rfl⟩
 rw [hn] at hc ⊢
 have hd : v = (decide (48 ≤ n) && decide (n ≤ 57)) := by rw [← hv, isDg_nat, hn]
 clear hv
 rcases (show (0 ≤ n ∧ n ≤ 47) ∨ (48 ≤ n ∧ n ≤ 57) ∨ (58 ≤ n ∧ n ≤ 255) by omega) with ⟨ha, hb⟩ | ⟨ha, hb⟩ | ⟨ha, hb⟩
 ·have ege48 : ((48 : Int) ≤ (n : Int)) = False := by simp; omega
  have ele57 : ((n : Int) ≤ 57) = True := by simp; omega
  obtain rfl : v = false := by rw [hd]; simp; omega
  clear hd hn
  go_enter Tryz.func103, Tryz.ntmps103
  go_wp2_with fail
  go_ret
  exact retB rfl (brefl w)
 ·have ege48 : ((48 : Int) ≤ (n : Int)) = True := by simp; omega
  have ele57 : ((n : Int) ≤ 57) = True := by simp; omega
  obtain rfl : v = true := by rw [hd]; simp; omega
  clear hd hn
  go_enter Tryz.func103, Tryz.ntmps103
  go_wp2_with fail
  go_ret
  exact retB rfl (brefl w)
 ·have ege48 : ((48 : Int) ≤ (n : Int)) = True := by simp; omega
  have ele57 : ((n : Int) ≤ 57) = False := by simp; omega
  obtain rfl : v = false := by rw [hd]; simp; omega
  clear hd hn
  go_enter Tryz.func103, Tryz.ntmps103
  go_wp2_with fail
  go_ret
  exact retB rfl (brefl w)
end Go.Proofs.YtckjakojllcdoaaGreatDoor

/- Walks: tokens: words, digits. -/
namespace Go.Proofs.YtckjakojllcdoaaGreatDoor
open Go Go.RowKit Bn
attribute [local go_sem ↓] Go.wp_at_zero Go.wp_at_succ
def atB (s : List UInt8) (i : Nat) : UInt8 := s.getD i 0
theorem atB_lt {s : List UInt8} {i : Nat} (h : i < s.length) : atB s i = s[i] := by unfold atB; rw [List.getD_eq_getElem?_getD, List.getElem?_eq_getElem h]; rfl
theorem atB_ge {s : List UInt8} {i : Nat} (h : s.length ≤ i) : atB s i = 0 := by unfold atB; rw [List.getD_eq_getElem?_getD, List.getElem?_eq_none h]; rfl
theorem drop_at {s : List UInt8} {i : Nat} (h : i < s.length) : s.drop i = atB s i :: s.drop (i + 1) := by rw [atB_lt h]; exact List.drop_eq_getElem_cons h
theorem tw_step {p : UInt8 → Bool} {s : List UInt8} {i : Nat} (hp : p 0 = false) (h : p (atB s i) = true) : i < s.length ∧ ((s.drop i).takeWhile p).length = 1 + ((s.drop (i + 1)).takeWhile p).length := by
  have hl : i < s.length := by
    rcases Nat.lt_or_ge i s.length with x | x
    · exact x
    · rw [atB_ge x, hp] at h; cases h
  refine ⟨hl, ?_⟩
  rw [drop_at hl, List.takeWhile_cons, if_pos h, List.length_cons]; omega
theorem tw_stop {p : UInt8 → Bool} {s : List UInt8} {i : Nat} (h : p (atB s i) = false) : ((s.drop i).takeWhile p).length = 0 := by
  rcases Nat.lt_or_ge i s.length with x | x
  · rw [drop_at x, List.takeWhile_cons, if_neg (by rw [h]; decide)]; rfl
  · rw [List.drop_eq_nil_of_le x]; rfl
theorem wordN_at {s : List UInt8} {i : Nat} (h : isLet (atB s i) = true) : i < s.length ∧ wordN (s.drop i) = 1 + ((s.drop (i + 1)).takeWhile isPart).length := by
  have hl : i < s.length := by
    rcases Nat.lt_or_ge i s.length with x | x
    · exact x
    · rw [atB_ge x] at h; cases h
  refine ⟨hl, ?_⟩
  rw [drop_at hl, wordN, if_pos h]
theorem wordN_no {s : List UInt8} {i : Nat} (h : isLet (atB s i) = false) : wordN (s.drop i) = 0 := by
  rcases Nat.lt_or_ge i s.length with x | x
  · rw [drop_at x, wordN, if_neg (by rw [h]; decide)]
  · rw [List.drop_eq_nil_of_le x]; rfl
theorem isPart_1 {c : UInt8} (h : isLet c = true) : isPart c = true := by unfold isPart; rw [h]; rfl
theorem isPart_2 {c : UInt8} (h : isDg c = true) : isPart c = true := by unfold isPart; rw [h, Bool.or_true]; rfl
theorem isPart_3 {c : UInt8} (h : (c == 95) = true) : isPart c = true := by unfold isPart; rw [h, Bool.or_true]
theorem isPart_0 {c : UInt8} (h1 : isLet c = false) (h2 : isDg c = false) (h3 : (c == 95) = false) : isPart c = false := by unfold isPart; rw [h1, h2, h3]; rfl
theorem byte_eq (c d : UInt8) : (((c.toNat : Nat) : Int) == ((d.toNat : Nat) : Int)) = (c == d) := by
  by_cases h : c = d
  · subst h; simp
  · rw [beq_eq_false_iff_ne.2 h, beq_eq_false_iff_ne]
    intro e; exact h (UInt8.toNat.inj (by omega))
theorem t_part (w : World) (c : UInt8) (v : Bool) (hv : isPart c = v) : Calls Tryz.prog 96 #[.int .u8 (c.toNat : Nat)] w (RetV w (.bool v)) := by
 cases hl : isLet c
 ·cases hd : isDg c
  ·cases hu : (c == 95)
   ·obtain rfl : v = false := by rw [← hv]; exact isPart_0 hl hd hu
    have h95 : (((c.toNat : Nat) : Int) == 95) = false := (byte_eq c 95).trans hu
    clear hv hu
    go_enter Tryz.func96, Tryz.ntmps96
    go_wp2_with fail
    (with_reducible refine (t_letter _ c false hl).mono ?_); rintro e w1 ⟨rfl, q1⟩
    have bw1 := (brefl w).trans (q1.mono (brefl w).size)
    have lw1 := q1.size
    clear q1
    go_wp2_with fail
    (with_reducible refine (t_digit _ c false hd).mono ?_); rintro e w2 ⟨rfl, q2⟩
    have bw2 := bw1.trans (q2.mono bw1.size)
    have lw2 := q2.size
    clear q2 bw1
    go_wp2_with fail
    go_ret
    exact retB rfl bw2
   ·obtain rfl : v = true := by rw [← hv]; exact isPart_3 hu
    have h95 : (((c.toNat : Nat) : Int) == 95) = true := (byte_eq c 95).trans hu
    clear hv hu
    go_enter Tryz.func96, Tryz.ntmps96
    go_wp2_with fail
    (with_reducible refine (t_letter _ c false hl).mono ?_); rintro e w1 ⟨rfl, q1⟩
    have bw1 := (brefl w).trans (q1.mono (brefl w).size)
    have lw1 := q1.size
    clear q1
    go_wp2_with fail
    (with_reducible refine (t_digit _ c false hd).mono ?_); rintro e w2 ⟨rfl, q2⟩
    have bw2 := bw1.trans (q2.mono bw1.size)
    have lw2 := q2.size
    clear q2 bw1
    go_wp2_with fail
    go_ret
    exact retB rfl bw2
  ·obtain rfl : v = true := by rw [← hv]; exact isPart_2 hd
   clear hv
   go_enter Tryz.func96, Tryz.ntmps96
   go_wp2_with fail
   (with_reducible refine (t_letter _ c false hl).mono ?_); rintro e w1 ⟨rfl, q1⟩
   have bw1 := (brefl w).trans (q1.mono (brefl w).size)
   have lw1 := q1.size
   clear q1
   go_wp2_with fail
   (with_reducible refine (t_digit _ c true hd).mono ?_); rintro e w2 ⟨rfl, q2⟩
   have bw2 := bw1.trans (q2.mono bw1.size)
   have lw2 := q2.size
   clear q2 bw1
   go_wp2_with fail
   go_ret
   exact retB rfl bw2
 ·obtain rfl : v = true := by rw [← hv]; exact isPart_1 hl
  clear hv
  go_enter Tryz.func96, Tryz.ntmps96
  go_wp2_with fail
  (with_reducible refine (t_letter _ c true hl).mono ?_); rintro e w1 ⟨rfl, q1⟩
  have bw1 := (brefl w).trans (q1.mono (brefl w).size)
  have lw1 := q1.size
  clear q1
  go_wp2_with fail
  go_ret
  exact retB rfl bw1
theorem r_at (w : World) (s : List UInt8) (i : Nat) (d : UInt8) (hd : atB s i = d) : Calls Tryz.prog 102 #[strV s, .int .i64 (i : Nat)] w (RetV w (.int .u8 (d.toNat : Nat))) := by
  have hszs := size_v s
  rcases Nat.lt_or_ge i s.length with hl | hl
  · have hget : ∀ h, (⟨s.toArray⟩ : ByteArray)[i]'h = d := fun h => by rw [← hd]; exact (atB_lt hl).symm
    have hlts : i < s.length := hl
    have hi0 : (0 : Int) ≤ ((i : Nat) : Int) := by omega
    have e1 : ((i : Int) < (s.length : Int)) = True := by simp; omega
    clear hd
    go_enter Tryz.func102, Tryz.ntmps102
    go_wp2_with fail
    go_ret
    exact ⟨rfl, (brefl w)⟩
  · obtain rfl : d = 0 := by rw [← hd]; exact atB_ge hl
    have e1 : ((i : Int) < (s.length : Int)) = False := by simp; omega
    clear hd
    go_enter Tryz.func102, Tryz.ntmps102
    go_wp2_with fail
    go_ret
    exact ⟨rfl, (brefl w)⟩
theorem r_wordEnd (w : World) (s : List UInt8) (i : Nat) (hi : i ≤ s.length) (hs : s.length < 4611686018427387904) (v : Nat) (hv : i + wordN (s.drop i) = v) : Calls Tryz.prog 68 #[strV s, .int .i64 (i : Nat)] w (RetV w (.int .i64 (v : Nat))) := by
 obtain ⟨d, hd⟩ : ∃ d, atB s i = d := ⟨_, rfl⟩
 cases hl : isLet d
 ·obtain rfl : i = v := by rw [← hv, wordN_no (by rw [hd]; exact hl)]; rfl
  clear hv
  go_enter Tryz.func68, Tryz.ntmps68
  go_wp2_with fail
  (with_reducible refine (r_at _ (s) (i) d hd).mono ?_); rintro e w1 ⟨rfl, q1⟩
  have bw1 := (brefl w).trans (q1.mono (brefl w).size)
  have lw1 := q1.size
  clear q1
  go_wp2_with fail
  (with_reducible refine (r_letter _ d false hl).mono ?_); rintro e w2 ⟨rfl, q2⟩
  have bw2 := bw1.trans (q2.mono bw1.size)
  have lw2 := q2.size
  clear q2 bw1
  go_wp2_with fail
  go_ret
  exact ⟨rfl, bw2⟩
 ·have hv : i + ((s.drop i).takeWhile isPart).length = v := by rw [← hv, (wordN_at (by rw [hd]; exact hl)).2, (tw_step (p := isPart) rfl (by rw [hd]; exact isPart_1 hl)).2]
  have HV := Lib.hid hv
  clear hv
  go_enter Tryz.func68, Tryz.ntmps68
  go_wp2_with fail
  (with_reducible refine (r_at _ (s) (i) d hd).mono ?_); rintro e w1 ⟨rfl, q1⟩
  have bw1 := (brefl w).trans (q1.mono (brefl w).size)
  have lw1 := q1.size
  clear q1
  go_wp2_with fail
  (with_reducible refine (r_letter _ d true hl).mono ?_); rintro e w2 ⟨rfl, q2⟩
  have bw2 := bw1.trans (q2.mono bw1.size)
  have lw2 := q2.size
  clear q2 bw1
  go_wp2_with fail
  clear hd hl
  go_loopw [1] (fun iv wr => ∃ (j : Nat), iv = .int .i64 (j : Nat) ∧ j ≤ s.length ∧ Hid (j + ((s.drop j).takeWhile isPart).length = v) ∧ Kp w2 wr ∧ Below w.heap.size w wr ∧ w2.heap.size ≤ wr.heap.size) (fun iv _ => s.length - (intOf iv).toNat)
  case atStart => exact ⟨i, rfl, hi, HV, Kp.refl _, bw2, Nat.le_refl _⟩
  case round =>
   obtain ⟨j, rfl, hj, hw, hkp, hbw, hlw⟩ := hrel
   obtain ⟨d, hd⟩ : ∃ d, atB s j = d := ⟨_, rfl⟩
   cases hl : isLet d
   ·cases hg : isDg d
    ·cases hu : (d == 95)
     ·have hjv : j = v := by rw [← hw.out, tw_stop (p := isPart) (by rw [hd]; exact isPart_0 hl hg hu)]; rfl
      subst hjv
      have h95 : (((d.toNat : Nat) : Int) == 95) = false := (byte_eq d 95).trans hu
      go_wp2_with fail
      (with_reducible refine (r_at _ (s) (j) d hd).mono ?_); rintro e w3 ⟨rfl, q3⟩
      replace hkp := hkp.below q3
      have bw3 := hbw.trans (q3.mono hbw.size)
      have lw3 := q3.size
      clear q3
      go_wp2_with fail
      (with_reducible refine (r_letter _ d false hl).mono ?_); rintro e w4 ⟨rfl, q4⟩
      replace hkp := hkp.below q4
      have bw4 := bw3.trans (q4.mono bw3.size)
      have lw4 := q4.size
      clear q4 bw3
      go_wp2_with fail
      (with_reducible refine (r_at _ (s) (j) d hd).mono ?_); rintro e w5 ⟨rfl, q5⟩
      replace hkp := hkp.below q5
      have bw5 := bw4.trans (q5.mono bw4.size)
      have lw5 := q5.size
      clear q5 bw4
      go_wp2_with fail
      (with_reducible refine (r_digit _ d false hg).mono ?_); rintro e w6 ⟨rfl, q6⟩
      replace hkp := hkp.below q6
      have bw6 := bw5.trans (q6.mono bw5.size)
      have lw6 := q6.size
      clear q6 bw5
      go_wp2_with fail
      (with_reducible refine (r_at _ (s) (j) d hd).mono ?_); rintro e w7 ⟨rfl, q7⟩
      replace hkp := hkp.below q7
      have bw7 := bw6.trans (q7.mono bw6.size)
      have lw7 := q7.size
      clear q7 bw6
      go_wp2_with fail
      go_ret
      exact ⟨rfl, bw7⟩
     ·obtain ⟨hlt, hst⟩ := tw_step (p := isPart) (s := s) (i := j) rfl (by rw [hd]; exact isPart_3 hu)
      have hw2 : Hid (j + 1 + ((s.drop (j + 1)).takeWhile isPart).length = v) := Lib.hid (by rw [← hw.out, hst]; omega)
      clear hst
      have h95 : (((d.toNat : Nat) : Int) == 95) = true := (byte_eq d 95).trans hu
      go_wp2_with fail
      (with_reducible refine (r_at _ (s) (j) d hd).mono ?_); rintro e w3 ⟨rfl, q3⟩
      replace hkp := hkp.below q3
      have bw3 := hbw.trans (q3.mono hbw.size)
      have lw3 := q3.size
      clear q3
      go_wp2_with fail
      (with_reducible refine (r_letter _ d false hl).mono ?_); rintro e w4 ⟨rfl, q4⟩
      replace hkp := hkp.below q4
      have bw4 := bw3.trans (q4.mono bw3.size)
      have lw4 := q4.size
      clear q4 bw3
      go_wp2_with fail
      (with_reducible refine (r_at _ (s) (j) d hd).mono ?_); rintro e w5 ⟨rfl, q5⟩
      replace hkp := hkp.below q5
      have bw5 := bw4.trans (q5.mono bw4.size)
      have lw5 := q5.size
      clear q5 bw4
      go_wp2_with fail
      (with_reducible refine (r_digit _ d false hg).mono ?_); rintro e w6 ⟨rfl, q6⟩
      replace hkp := hkp.below q6
      have bw6 := bw5.trans (q6.mono bw5.size)
      have lw6 := q6.size
      clear q6 bw5
      go_wp2_with fail
      (with_reducible refine (r_at _ (s) (j) d hd).mono ?_); rintro e w7 ⟨rfl, q7⟩
      replace hkp := hkp.below q7
      have bw7 := bw6.trans (q7.mono bw6.size)
      have lw7 := q7.size
      clear q7 bw6
      go_wp2_with fail
      go_roundw
      case rel => exact ⟨j + 1, by go_num, by omega, hw2, hkp, bw7, by omega⟩
      case measure => simp [intOf]; omega
    ·obtain ⟨hlt, hst⟩ := tw_step (p := isPart) (s := s) (i := j) rfl (by rw [hd]; exact isPart_2 hg)
     have hw2 : Hid (j + 1 + ((s.drop (j + 1)).takeWhile isPart).length = v) := Lib.hid (by rw [← hw.out, hst]; omega)
     clear hst
     go_wp2_with fail
     (with_reducible refine (r_at _ (s) (j) d hd).mono ?_); rintro e w3 ⟨rfl, q3⟩
     replace hkp := hkp.below q3
     have bw3 := hbw.trans (q3.mono hbw.size)
     have lw3 := q3.size
     clear q3
     go_wp2_with fail
     (with_reducible refine (r_letter _ d false hl).mono ?_); rintro e w4 ⟨rfl, q4⟩
     replace hkp := hkp.below q4
     have bw4 := bw3.trans (q4.mono bw3.size)
     have lw4 := q4.size
     clear q4 bw3
     go_wp2_with fail
     (with_reducible refine (r_at _ (s) (j) d hd).mono ?_); rintro e w5 ⟨rfl, q5⟩
     replace hkp := hkp.below q5
     have bw5 := bw4.trans (q5.mono bw4.size)
     have lw5 := q5.size
     clear q5 bw4
     go_wp2_with fail
     (with_reducible refine (r_digit _ d true hg).mono ?_); rintro e w6 ⟨rfl, q6⟩
     replace hkp := hkp.below q6
     have bw6 := bw5.trans (q6.mono bw5.size)
     have lw6 := q6.size
     clear q6 bw5
     go_wp2_with fail
     go_roundw
     case rel => exact ⟨j + 1, by go_num, by omega, hw2, hkp, bw6, by omega⟩
     case measure => simp [intOf]; omega
   ·obtain ⟨hlt, hst⟩ := tw_step (p := isPart) (s := s) (i := j) rfl (by rw [hd]; exact isPart_1 hl)
    have hw2 : Hid (j + 1 + ((s.drop (j + 1)).takeWhile isPart).length = v) := Lib.hid (by rw [← hw.out, hst]; omega)
    clear hst
    go_wp2_with fail
    (with_reducible refine (r_at _ (s) (j) d hd).mono ?_); rintro e w3 ⟨rfl, q3⟩
    replace hkp := hkp.below q3
    have bw3 := hbw.trans (q3.mono hbw.size)
    have lw3 := q3.size
    clear q3
    go_wp2_with fail
    (with_reducible refine (r_letter _ d true hl).mono ?_); rintro e w4 ⟨rfl, q4⟩
    replace hkp := hkp.below q4
    have bw4 := bw3.trans (q4.mono bw3.size)
    have lw4 := q4.size
    clear q4 bw3
    go_wp2_with fail
    go_roundw
    case rel => exact ⟨j + 1, by go_num, by omega, hw2, hkp, bw4, by omega⟩
    case measure => simp [intOf]; omega
theorem t_word (w : World) (s : List UInt8) (hs : s.length < 4611686018427387904) (v : Nat) (hv : wordN s = v) : Calls Tryz.prog 62 #[strV s] w (RetV w (.int .i64 (v : Nat))) := by
 have hszs := size_v s
 rcases Nat.eq_zero_or_pos s.length with h0 | h0
 ·obtain rfl : s = [] := List.eq_nil_of_length_eq_zero h0
  obtain rfl : 0 = v := hv
  clear hs
  go_enter Tryz.func62, Tryz.ntmps62
  go_wp2_with fail
  go_ret
  exact ⟨rfl, (brefl w)⟩
 ·obtain ⟨y, ys, hyy⟩ : ∃ y ys, s = y :: ys := List.exists_cons_of_length_pos h0
  have hBe : ((⟨s.toArray⟩ : ByteArray) == ⟨#[]⟩) = false := by rw [hyy]; rfl
  have hBl : (s == []) = false := by rw [hyy]; rfl
  have hBn : (s = []) = False := by rw [hyy]; simp
  clear hyy
  obtain ⟨d, hd⟩ : ∃ d, atB s 0 = d := ⟨_, rfl⟩
  have hget : ∀ h, (⟨s.toArray⟩ : ByteArray)[0]'h = d := fun h => by rw [← hd]; exact (atB_lt h0).symm
  have hi1 : (0 : Int) < (s.length : Int) := by omega
  cases hl : isLet d
  ·obtain rfl : 0 = v := by rw [← hv]; exact (wordN_no (s := s) (i := 0) (by rw [hd]; exact hl)).symm
   clear hd hv
   go_enter Tryz.func62, Tryz.ntmps62
   go_wp2_with fail
   (with_reducible refine (t_letter _ d false hl).mono ?_); rintro e w1 ⟨rfl, q1⟩
   have bw1 := (brefl w).trans (q1.mono (brefl w).size)
   have lw1 := q1.size
   clear q1
   go_wp2_with fail
   go_ret
   exact ⟨rfl, bw1⟩
  ·have HV : Hid (1 + ((s.drop 1).takeWhile isPart).length = v) := Lib.hid (by rw [← hv]; exact ((wordN_at (s := s) (i := 0) (by rw [hd]; exact hl)).2).symm)
   clear hv hd
   go_enter Tryz.func62, Tryz.ntmps62
   go_wp2_with fail
   (with_reducible refine (t_letter _ d true hl).mono ?_); rintro e w1 ⟨rfl, q1⟩
   have bw1 := (brefl w).trans (q1.mono (brefl w).size)
   have lw1 := q1.size
   clear q1
   go_wp2_with fail
   clear hget hl hi1 hBe hBl hBn
   go_loopw [3] (fun iv wr => ∃ (j : Nat), iv = .int .i64 (j : Nat) ∧ j ≤ s.length ∧ Hid (j + ((s.drop j).takeWhile isPart).length = v) ∧ Kp w1 wr ∧ Below w.heap.size w wr ∧ w1.heap.size ≤ wr.heap.size) (fun iv _ => s.length - (intOf iv).toNat)
   case atStart => exact ⟨1, rfl, h0, HV, Kp.refl _, bw1, Nat.le_refl _⟩
   case round =>
    obtain ⟨j, rfl, hj, hw, hkp, hbw, hlw⟩ := hrel
    rcases Nat.lt_or_ge j s.length with hl | hl
    ·obtain ⟨d, hd⟩ : ∃ d, atB s j = d := ⟨_, rfl⟩
     have hget : ∀ h, (⟨s.toArray⟩ : ByteArray)[j]'h = d := fun h => by rw [← hd]; exact (atB_lt hl).symm
     have hlt : j < s.length := hl
     cases hg : isPart d
     ·have hjv : j = v := by rw [← hw.out, tw_stop (p := isPart) (by rw [hd]; exact hg)]; rfl
      subst hjv
      clear hd
      go_wp2_with fail
      (with_reducible refine (t_part _ d false hg).mono ?_); rintro e w2 ⟨rfl, q2⟩
      replace hkp := hkp.below q2
      have bw2 := hbw.trans (q2.mono hbw.size)
      have lw2 := q2.size
      clear q2
      go_wp2_with fail
      go_ret
      exact ⟨rfl, bw2⟩
     ·obtain ⟨_, hst⟩ := tw_step (p := isPart) (s := s) (i := j) rfl (by rw [hd]; exact hg)
      have hw2 : Hid (j + 1 + ((s.drop (j + 1)).takeWhile isPart).length = v) := Lib.hid (by rw [← hw.out, hst]; omega)
      clear hst hd
      go_wp2_with fail
      (with_reducible refine (t_part _ d true hg).mono ?_); rintro e w2 ⟨rfl, q2⟩
      replace hkp := hkp.below q2
      have bw2 := hbw.trans (q2.mono hbw.size)
      have lw2 := q2.size
      clear q2
      go_wp2_with fail
      go_roundw
      case rel => exact ⟨j + 1, by go_num, by omega, hw2, hkp, bw2, by omega⟩
      case measure => simp [intOf]; omega
    ·have hjv : j = v := by rw [← hw.out, tw_stop (p := isPart) (by rw [atB_ge hl]; rfl)]; rfl
     subst hjv
     have hi1 : ((j : Int) < (s.length : Int)) = False := by simp; omega
     go_wp2_with fail
     go_ret
     exact ⟨rfl, hbw⟩
theorem r_wordEnd_x (w : World) (s : List UInt8) (x : Int) (i : Nat) (hx : x = ((i : Nat) : Int)) (hi : i ≤ s.length) (hs : s.length < 4611686018427387904) (y : Int) (hy : ((i + wordN (s.drop i) : Nat) : Int) = y) : Calls Tryz.prog 68 #[strV s, .int .i64 x] w (RetV w (.int .i64 y)) := by
  subst hx hy
  exact r_wordEnd w s i hi hs _ rfl
end Go.Proofs.YtckjakojllcdoaaGreatDoor

/- Walks: the reference's division. -/
namespace Go.Proofs.YtckjakojllcdoaaGreatDoor
open Go Go.RowKit Bn
attribute [local go_sem ↓] Go.wp_at_zero Go.wp_at_succ

theorem val_rep (m : Nat) : val (List.replicate m 0) = 0 := by
  induction m with
  | zero => rfl
  | succ m ih => rw [List.replicate_succ, val, ih]
theorem wds_rep (m : Nat) : Wds (List.replicate m 0) := by intro x hx; rw [List.eq_of_mem_replicate hx]; omega
theorem words_cells (l : List Nat) : (cellsOf l).toList = words l := by simp [cellsOf, words]
theorem OwS.made (w : World) {B : Nat} (L : List Nat) (n : Nat) (hB : B ≤ w.heap.size) (hn : n ≤ 4398046511104) (hL : L.length = n) (hW : Wds L) : OwS (w.alloc (.cells (cellsOf L) 104)) B w.heap.size n n L := by
  refine ⟨?_, hW⟩
  rw [← words_cells]
  exact World.ownsRow_lit w (cellsOf L) n hB (by unfold maxLen; omega) (by simp [cellsOf, hL])
theorem OwS.far {w : World} {B g n cap : Nat} {l : List Nat} (h : OwS w B g n cap l) {p : Addr} (hp : g ≠ p.block) (u : Value) : OwS (w.setCell p u) B g n cap l := by
  refine ⟨⟨h.1.1, ?_⟩, h.2⟩
  rcases h.1.2 with ⟨e, _⟩ | ⟨g', c', cur, e, hB, hgg, r⟩
  · cases e
  · have e' := e
    injection e with e1 _ e2; injection e1 with e1; injection e1 with e1; subst e1
    exact .inr ⟨g, c', cur, e', hB, (Below.heap_setCell w p u g hp).trans hgg, r⟩
theorem or_word {u p s : Nat} (hu : u + p < 4294967296) (ho : u ||| p = u + p) (hp : 2 ^ s = p) : bits .or .u32 (u : Int) ((2 : Int) ^ s % 4294967296) = ((u + p : Nat) : Int) := by
  have e : (2 : Int) ^ s % 4294967296 = (p : Int) := by
    have h : (2 : Int) ^ s = ((2 ^ s : Nat) : Int) := by simp
    rw [h, hp]; omega
  rw [e, ← ho]
  exact u32_or_nat u p (by omega) (by omega)
theorem q_in {q m : Nat} : (2 * q + 1) * 2 ^ m = q * 2 ^ (m + 1) + 2 ^ m := by rw [Nat.pow_succ]; grind
theorem q_out {q m : Nat} : (2 * q) * 2 ^ m = q * 2 ^ (m + 1) := by rw [Nat.pow_succ]; grind
def DivO (a b : Nat) (Lq Lr : List Nat) (k : Nat) : Prop := val Lq = a / 2 ^ k / b * 2 ^ k ∧ val Lr = a / 2 ^ k % b
theorem r_divide_c (w : World) (A : Option Addr) (n c : Nat) (l : List Nat) (wa : Wd w A n c l) (hn : n ≤ 1000000000000) (A' : Option Addr) (n' c' : Nat) (l' : List Nat) (wb : Wd w A' n' c' l') (hn' : n' ≤ 1000000000000) (h0 : val l' ≠ 0) :
  Calls Tryz.prog 116 #[.slice A n c, .slice A' n' c'] w (RetD w (val l) (val l')) := by
 have HL := Lib.hid wa.2.1
 have HL' := Lib.hid wb.2.1
 obtain ⟨va, hva⟩ : ∃ v, val l = v := ⟨_, rfl⟩
 obtain ⟨vb, hvb⟩ : ∃ v, val l' = v := ⟨_, rfl⟩
 have HA := Lib.hid hva
 have HB := Lib.hid hvb
 rw [hvb] at h0
 have H0 := Lib.hid (Nat.pos_of_ne_zero h0)
 rw [hva, hvb]
 obtain ⟨gb, ob, rfl, hgb, _⟩ := wb.at2 (by
  rcases Nat.eq_zero_or_pos n' with e | e
  ·exfalso
   have h9 := HL'.out
   rw [e] at h9
   rw [List.eq_nil_of_length_eq_zero h9.symm] at hvb
   exact h0 hvb.symm
  ·exact e)
 clear h0 hva hvb
 go_enter Tryz.func116, Tryz.ntmps116
 go_wp2_with (first
  | (at_make; refine wpList_make_words _ rfl _ _ rfl _ _ _ _ n rfl rfl (by omega) (by omega) (by omega) ?_)
  | (at_make; refine wpList_make_words _ rfl _ _ rfl _ _ _ _ (n' + 1) rfl rfl (by omega) (by omega) (by omega) ?_))
 (with_reducible refine (r_bits_c _ A n c l ?_ (by omega)).mono ?_); (exact wa.keep (((Kp.refl w).alloc _).alloc _)); rintro e w1 ⟨N, rfl, hN1, hN2, rfl⟩
 rw [HA.out] at hN1
 go_wp2_with fail
 have oq0 : OwS ((w.alloc (.cells (cellsOf (List.replicate n 0)) 104)).alloc (.cells (cellsOf (List.replicate (n' + 1) 0)) 104)) w.heap.size w.heap.size n n (List.replicate n 0) :=
  (OwS.made w (List.replicate n 0) n (Nat.le_refl _) (by omega) (by simp) (wds_rep n)).belw ((brefl _).alloc (Nat.le_refl _) _)
 have or0 : OwS ((w.alloc (.cells (cellsOf (List.replicate n 0)) 104)).alloc (.cells (cellsOf (List.replicate (n' + 1) 0)) 104)) w.heap.size (w.heap.size + 1) (n' + 1) (n' + 1) (List.replicate (n' + 1) 0) := by
  have h := OwS.made (w.alloc (.cells (cellsOf (List.replicate n 0)) 104)) (B := w.heap.size) (List.replicate (n' + 1) 0) (n' + 1) (by simp) (by omega) (by simp) (wds_rep _)
  simpa using h
 have HO := Lib.hid (And.intro oq0 or0)
 clear oq0 or0
 go_loopw [8] (fun iv wr => ∃ (k : Nat) (z : Int) (Lq Lr : List Nat), k ≤ N ∧ iv = .int .i64 z ∧ z + 1 = (k : Int) ∧ DivO va vb Lq Lr k ∧ OwS wr w.heap.size w.heap.size n n Lq ∧ OwS wr w.heap.size (w.heap.size + 1) (n' + 1) (n' + 1) Lr ∧ Below w.heap.size w wr) (fun iv _ => (intOf iv + 1).toNat)
 case atStart =>
  refine ⟨N, (N : Int) - 1, _, _, Nat.le_refl _, by go_num, by omega, ⟨?_, ?_⟩, HO.out.1, HO.out.2, ((brefl w).alloc (Nat.le_refl _) _).alloc (by simp) _⟩
  ·rw [val_rep, Nat.div_eq_of_lt hN1]; simp
  ·rw [val_rep, Nat.div_eq_of_lt hN1]; simp
 case round =>
  obtain ⟨k, z, Lq, Lr, hk, rfl, hz, hI, hq, hr, hbel⟩ := hrel
  have HK := Lib.hid ((Kp.refl w).below hbel)
  have HI := Lib.hid hI
  have HQ := Lib.hid hq
  have HR := Lib.hid hr
  have HBL := Lib.hid hbel
  clear hI hq hr hbel HO
  by_cases hk0 : k = 0
  ·subst hk0
   have ez : z = -1 := by omega
   subst ez
   go_wp2_with fail
   (with_reducible refine (r_trim_c _ (some ⟨w.heap.size, 0, none⟩) n n Lq ?_ (by omega)).mono ?_); (exact HQ.out.toWd); rintro e w1 ⟨A1, n1, c1, rfl, h1, hb1⟩
   have HR2 := Lib.hid (HR.out.belw hb1)
   have HBL2 := Lib.hid (HBL.out.trans (hb1.mono HBL.out.size))
   clear hb1
   go_wp2_with fail
   (with_reducible refine (r_trim_c _ (some ⟨w.heap.size + 1, 0, none⟩) (n' + 1) (n' + 1) Lr ?_ (by omega)).mono ?_); (exact HR2.out.toWd); rintro e w2 ⟨A2, n2, c2, rfl, h2, hb2⟩
   have h1' := h1.keep ((Kp.refl w1).below hb2)
   have HBL3 := HBL2.out.trans (hb2.mono HBL2.out.size)
   rw [HI.out.1] at h1'
   rw [HI.out.2] at h2
   simp only [Nat.pow_zero, Nat.div_one, Nat.mul_one] at h1' h2
   have HF := Lib.hid (And.intro h1' (And.intro h2 HBL3))
   clear h1 h1' h2 HBL3 hb2
   go_wp2
   refine bodyPost_ret (v := .tuple #[.slice A1 n1 c1, .slice A2 n2 c2]) (by simp [results, Tryz.results116, go_sem]) rfl ?_
   exact ⟨A1, n1, c1, A2, n2, c2, rfl, HF.out.1, HF.out.2.1, HF.out.2.2⟩
  ·obtain ⟨m, rfl⟩ : ∃ m, k = m + 1 := ⟨k - 1, by omega⟩
   have ez : z = (m : Int) := by omega
   subst ez
   have hm32 : m / 32 < n := by omega
   obtain ⟨ga, oa, rfl, hgl, hca⟩ := (wa.keep HK.out).at2 (by omega)
   have hcx := hca (m / 32) hm32
   obtain ⟨x, hx⟩ : ∃ x, wd l (m / 32) = x := ⟨_, rfl⟩
   have hx1 : x < 4294967296 := by rw [← hx]; exact wa.lt _
   rw [hx] at hcx
   have HX := Lib.hid hx
   obtain ⟨br, hbr⟩ : ∃ d, bits .and .u32 ((x : Int) / 2 ^ (m % 32)) 1 = d := ⟨_, rfl⟩
   obtain ⟨b, hb⟩ : ∃ b, va / 2 ^ m % 2 = b := ⟨_, rfl⟩
   have hbb : br = (b : Int) := by
    rw [← hbr, ← hb, ← HA.out, ← wd_bit wa.1 m, hx]
    have e : (x : Int) / 2 ^ (m % 32) = ((x / 2 ^ (m % 32) : Nat) : Int) := by simp
    rw [e, and_one _ (Nat.lt_of_le_of_lt (Nat.div_le_self _ _) hx1)]
   have HB1 := Lib.hid hb
   have hb1 : b ≤ 1 := by omega
   clear hca hx hz hk0 hb
   go_wp2_with fail
   try rw [hbb]
   clear hbr hbb
   go_loopw [9, 36] (fun cv kv w2 => ∃ (k cr : Nat) (L2 : List Nat), k ≤ n' + 1 ∧ kv = .int .i64 (k : Nat) ∧ cv = .int .u32 (cr : Nat) ∧ cr ≤ 1 ∧ DblI Lr L2 b k cr ∧ OwS w2 w.heap.size w.heap.size n n Lq ∧ OwS w2 w.heap.size (w.heap.size + 1) (n' + 1) (n' + 1) L2 ∧ Below w.heap.size w w2) (fun _ kv _ => n' + 1 - (intOf kv).toNat)
   case atStart => exact ⟨0, b, Lr, Nat.zero_le _, rfl, rfl, hb1, DblI.start _ _, HQ.out, HR.out, HBL.out⟩
   case round =>
    obtain ⟨k, cr, L2, hk2, rfl, rfl, hcr, hI2, hq2, hr2, hbel2⟩ := hrel
    have HI2 := Lib.hid hI2
    have HQ2 := Lib.hid hq2
    have HR2 := Lib.hid hr2
    have HBL2 := Lib.hid hbel2
    clear hI2 hq2 hr2 hbel2
    by_cases hkk : k < n' + 1
    ·obtain ⟨y, hy⟩ : ∃ y, wd Lr k = y := ⟨_, rfl⟩
     have hy1 : y < 4294967296 := by rw [← hy]; exact wd_lt HR.out.2 _
     have hck := HR2.out.cell k hkk
     rw [HI2.out.1 k (Nat.le_refl _), hy] at hck
     have hfk := HR2.out.frozen k
     have HY := Lib.hid hy
     obtain ⟨s, hs⟩ : ∃ s, bits .or .u32 ((y : Int) * 2 % 4294967296) (cr : Int) = s := ⟨_, rfl⟩
     have he : s = ((y * 2 % 4294967296 + cr : Nat) : Int) := by
      rw [← hs, ← (dbl_word hcr hy1).1]
      exact u32_or_nat (y * 2 % 4294967296) cr (Nat.mod_lt _ (by decide)) (by omega)
     have HE := Lib.hid he
     have HS := Lib.hid (dbl_word hcr hy1).2
     clear hy he
     go_wp2
     go_region
     clear hs
     go_wp2
     go_roundw
     case rel =>
      have hst := HI2.out.step HY.out hy1 (by rw [← HR2.out.len]; exact hkk)
      refine ⟨k + 1, y / 2147483648, L2.set k (y * 2 % 4294967296 + cr), by omega, by go_num, by go_num, HS.out.2, hst, ?_, ?_, ?_⟩
      ·exact OwS.far (w := wr) HQ2.out (p := ⟨w.heap.size + 1, k, none⟩) (by simp) _
      ·exact OwS.set (w := wr) HR2.out k HS.out.1 HE.out
      ·exact (Below.setCell HBL2.out (p := ⟨w.heap.size + 1, k, none⟩) (by simp) _).drew
     case measure => simp [intOf]; omega
    ·have hkn : k = n' + 1 := by omega
     subst hkn
     have hv2 : val L2 = 2 * val Lr + b := by
      have h3 := HR2.out.len
      have h4 := HR.out.len
      refine DblI.fin HI2.out (by omega) (by omega) ?_
      refine dbl_room (v := vb) ?_ ?_ hb1
      ·rw [HI.out.2]; exact Nat.mod_lt _ H0.out
      ·rw [← HB.out, HL'.out]; exact val_lt wb.1
     rw [HI.out.2, ← HB1.out] at hv2
     obtain ⟨r2, hr2⟩ : ∃ r, val L2 = r := ⟨_, rfl⟩
     rw [hr2] at hv2
     have HV := Lib.hid hv2
     have HR2v := Lib.hid hr2
     clear hv2 hr2
     by_cases hge : vb ≤ r2
     ·have hc0 : 0 ≤ cmpN r2 vb := by unfold cmpN; (repeat' split) <;> omega
      obtain ⟨cv, hcv⟩ : ∃ cv, cmpN r2 vb = cv := ⟨_, rfl⟩
      rw [hcv] at hc0
      have HC := Lib.hid hcv
      clear hcv
      go_wp2_with fail
      (with_reducible refine (r_compare_c _ (some ⟨w.heap.size + 1, 0, none⟩) (n' + 1) (n' + 1) L2 ?_ ?_ (some ⟨gb, ob, none⟩) n' c' l' ?_ ?_).mono ?_); (exact HR2.out.toWd); (omega); (exact wb.keep ((Kp.refl w).below HBL2.out)); (omega); rintro e w1 ⟨rfl, hbl1⟩
      rw [HR2v.out, HB.out, HC.out]
      have HQ3 := Lib.hid (HQ2.out.belw hbl1)
      have HR3 := Lib.hid (HR2.out.belw hbl1)
      have HBL3 := Lib.hid (HBL2.out.trans (hbl1.mono HBL2.out.size))
      clear hbl1 HQ2 HR2 HBL2
      go_wp2_with fail
      (with_reducible refine (r_take_o _ w.heap.size (w.heap.size + 1) (n' + 1) (n' + 1) L2 ?_ ?_ (some ⟨gb, ob, none⟩) n' c' l' ?_ ?_ ?_ ?_).mono ?_)
      ·exact HR3.out
      ·omega
      ·exact wb.keep ((Kp.refl w).below HBL3.out)
      ·intro ad e; injection e with e; subst e; show gb ≠ _; omega
      ·omega
      ·rw [HR2v.out, HB.out]; exact hge
      rintro e w2 ⟨L3, rfl, hr3, hv3, hon⟩
      rw [HR2v.out, HB.out] at hv3
      have hq3 := hon.own HQ3.out (by omega)
      have HBL4 := Lib.hid (HBL3.out.trans (hon.1.mono (by omega)))
      have HR4 := Lib.hid hr3
      have HV3 := Lib.hid hv3
      obtain ⟨u, hu⟩ : ∃ u, wd Lq (m / 32) = u := ⟨_, rfl⟩
      have hcq := hq3.cell (m / 32) hm32
      have hfq := hq3.frozen (m / 32)
      rw [hu] at hcq
      have hob := or_bit HQ.out.2 m (by rw [← HQ.out.len]; exact hm32) HI.out.1
      rw [hu] at hob
      obtain ⟨p, hp⟩ : ∃ p, 2 ^ (m % 32) = p := ⟨_, rfl⟩
      rw [hp] at hob
      have HQ4 := Lib.hid hq3
      have HOB := Lib.hid hob
      have HU := Lib.hid hu
      have HP := Lib.hid hp
      clear hr3 hv3 hon hq3 HQ3 HR3 HBL3 hu hob hp
      go_wp2
      go_region
      go_wp2
      go_roundw
      case rel =>
       have hbi := bit_in (a := va) (k := m) HV.out hge H0.out
       have he := or_word HOB.out.2.1 HOB.out.1 HP.out
       refine ⟨m, (m : Int) - 1, Lq.set (m / 32) (u + p), L3, by omega, by go_num, by omega, ⟨?_, ?_⟩, ?_, ?_, ?_⟩
       ·rw [HOB.out.2.2, HI.out.1, hbi.1, q_in]
       ·rw [HV3.out, hbi.2]
       ·exact OwS.set (w := w2) HQ4.out (m / 32) HOB.out.2.1 he
       ·exact OwS.far (w := w2) HR4.out (p := ⟨w.heap.size, m / 32, none⟩) (by simp) _
       ·exact (Below.setCell HBL4.out (p := ⟨w.heap.size, m / 32, none⟩) (by simp) _).drew
      case measure => simp [intOf] <;> omega
     ·have hc0 : cmpN r2 vb < 0 := by unfold cmpN; (repeat' split) <;> omega
      obtain ⟨cv, hcv⟩ : ∃ cv, cmpN r2 vb = cv := ⟨_, rfl⟩
      rw [hcv] at hc0
      have HC := Lib.hid hcv
      clear hcv
      go_wp2_with fail
      (with_reducible refine (r_compare_c _ (some ⟨w.heap.size + 1, 0, none⟩) (n' + 1) (n' + 1) L2 ?_ ?_ (some ⟨gb, ob, none⟩) n' c' l' ?_ ?_).mono ?_); (exact HR2.out.toWd); (omega); (exact wb.keep ((Kp.refl w).below HBL2.out)); (omega); rintro e w1 ⟨rfl, hbl1⟩
      rw [HR2v.out, HB.out, HC.out]
      have HQ3 := Lib.hid (HQ2.out.belw hbl1)
      have HR3 := Lib.hid (HR2.out.belw hbl1)
      have HBL3 := Lib.hid (HBL2.out.trans (hbl1.mono HBL2.out.size))
      clear hbl1 HQ2 HR2 HBL2
      go_wp2
      go_roundw
      case rel =>
       have hbi := bit_out (a := va) (k := m) HV.out (by omega)
       refine ⟨m, (m : Int) - 1, Lq, L2, by omega, by go_num, by omega, ⟨?_, ?_⟩, HQ3.out, HR3.out, HBL3.out⟩
       ·rw [HI.out.1, hbi.1, q_out]
       ·rw [HR2v.out, hbi.2]
      case measure => simp [intOf] <;> omega
end Go.Proofs.YtckjakojllcdoaaGreatDoor

/- Walks: the reference's Div, of a dividend that is not negative or that the divisor divides. -/
namespace Go.Proofs.YtckjakojllcdoaaGreatDoor
open Go Go.RowKit Bn
attribute [local go_sem ↓] Go.wp_at_zero Go.wp_at_succ
theorem r_neg_e (w : World) (b : Bool) (A : Option Addr) (n c : Nat) (l : List Nat) (s : Bool) (wa : Wd w A n c l) (hn : n ≤ 1099511627776) (hs : WD.s ⟨b, l⟩ = s) :
    Calls Tryz.prog 85 #[.agg #[.bool b, .slice A n c]] w (RetV w (.bool s)) := by subst hs; exact r_neg_c w b A n c l wa hn
theorem r_sign_x (w : World) (b : Bool) (A : Option Addr) (n c : Nat) (l : List Nat) (s : Int) (wa : Wd w A n c l) (hn : n ≤ 1099511627000) (hs : (WD.z ⟨b, l⟩).sign = s) :
    Calls Tryz.prog 81 #[.agg #[.bool b, .slice A n c]] w (RetV w (.int .i64 s)) := by subst hs; exact r_sign_c w b A n c l wa hn
theorem r_divide_e (w : World) (A : Option Addr) (n c : Nat) (l : List Nat) (wa : Wd w A n c l) (hn : n ≤ 1000000000000) (A' : Option Addr) (n' c' : Nat) (l' : List Nat) (wb : Wd w A' n' c' l') (hn' : n' ≤ 1000000000000) (x y : Nat) (hx : val l = x) (hy : val l' = y) (h0 : y ≠ 0) :
    Calls Tryz.prog 116 #[.slice A n c, .slice A' n' c'] w (RetD w x y) := by subst hx hy; exact r_divide_c w A n c l wa hn A' n' c' l' wb hn' h0
def RetDivR (w : World) (q r : Int) (e : Ending) (w' : World) : Prop := ∃ A1 n1 c1 A2 n2 c2, e = .returned (.tuple #[.agg #[.bool (wh q).neg, .slice A1 n1 c1], .agg #[.bool (wh r).neg, .slice A2 n2 c2], .int .i64 0]) ∧ Wd w' A1 n1 c1 (wh q).mag ∧ Wd w' A2 n2 c2 (wh r).mag ∧ Below w.heap.size w w'
theorem r_div_C (w : World) (b : Bool) (A : Option Addr) (n c : Nat) (l : List Nat) (wa : Wd w A n c l) (hn : n ≤ 1000000000000) (b' : Bool) (A' : Option Addr) (n' c' : Nat) (l' : List Nat) (wb : Wd w A' n' c' l') (hn' : n' ≤ 1000000000000) (h0 : WD.z ⟨b', l'⟩ ≠ 0) (hr0 : WD.z ⟨b, l⟩ % WD.z ⟨b', l'⟩ = 0) :
    Calls Tryz.prog 94 #[.agg #[.bool b, .slice A n c], .agg #[.bool b', .slice A' n' c']] w (RetDivR w (WD.z ⟨b, l⟩ / WD.z ⟨b', l'⟩) (WD.z ⟨b, l⟩ % WD.z ⟨b', l'⟩)) := by
  have HL := Lib.hid wa.2.1
  have HL' := Lib.hid wb.2.1
  obtain ⟨s0, hs0'⟩ : ∃ s, (WD.z ⟨b', l'⟩).sign = s := ⟨_, rfl⟩
  have es0 : ((s0 : Int) == 0) = false := by simp; rintro rfl; exact h0 (Int.sign_eq_zero_iff_zero.1 hs0')
  have HSG := Lib.hid hs0'
  clear hs0'
  have hd0 : val (WD.m ⟨b', l'⟩) ∣ val (WD.m ⟨b, l⟩) := by
    rw [← z_nat ⟨b, l⟩, ← z_nat ⟨b', l'⟩]
    exact Int.natAbs_dvd_natAbs.2 (Int.dvd_of_emod_eq_zero hr0)
  rw [WD.z_eq] at h0 ⊢
  rw [WD.z_eq ⟨b', l'⟩]
  have hv2 : val (WD.m ⟨b', l'⟩) ≠ 0 := by intro e; rw [e] at h0; exact h0 (by cases (WD.s ⟨b', l'⟩) <;> rfl)
  obtain ⟨sa, hsa⟩ : ∃ s, WD.s ⟨b, l⟩ = s := ⟨_, rfl⟩
  obtain ⟨sb, hsb⟩ : ∃ s, WD.s ⟨b', l'⟩ = s := ⟨_, rfl⟩
  rw [hsa, hsb]
  obtain ⟨x, hx⟩ : ∃ x, val (WD.m ⟨b, l⟩) = x := ⟨_, rfl⟩
  obtain ⟨y, hy⟩ : ∃ y, val (WD.m ⟨b', l'⟩) = y := ⟨_, rfl⟩
  rw [hx, hy]
  rw [hx, hy] at hd0
  have HS := Lib.hid (And.intro hsa hsb)
  have HX := Lib.hid (And.intro hx hy)
  have HY := Lib.hid (show y ≠ 0 from hy ▸ hv2)
  have HR0 := Lib.hid (Nat.mod_eq_zero_of_dvd hd0)
  clear hsa hsb hx hy hv2 h0 hr0 hd0
  go_enter Tryz.func94, Tryz.ntmps94
  go_wp2_with fail
  have b0 : Below w.heap.size w ((((w.alloc (.cells #[.bool b, .slice A n c] 82)).alloc (.cells #[.bool b', .slice A' n' c'] 82)).alloc (.cells #[.bool false, .slice none 0 0] 82)).alloc (.cells #[.bool false, .slice none 0 0] 82)) := (((((Below.refl _ _).alloc (Nat.le_refl _) _).alloc (by simp) _).alloc (by simp; omega) _).alloc (by simp; omega) _)
  generalize hW0 : ((((w.alloc (.cells #[.bool b, .slice A n c] 82)).alloc (.cells #[.bool b', .slice A' n' c'] 82)).alloc (.cells #[.bool false, .slice none 0 0] 82)).alloc (.cells #[.bool false, .slice none 0 0] 82)) = W0 at b0 ⊢
  have c00 : W0.cell? ⟨w.heap.size, 0, none⟩ = some (.bool b) := by subst hW0; simp [go_sem]
  have f00 : W0.frozen? ⟨w.heap.size, 0, none⟩ = false := by subst hW0; simp [go_sem]
  have c01 : W0.cell? ⟨w.heap.size, 1, none⟩ = some (.slice A n c) := by subst hW0; simp [go_sem]
  have f01 : W0.frozen? ⟨w.heap.size, 1, none⟩ = false := by subst hW0; simp [go_sem]
  have c10 : W0.cell? ⟨w.heap.size + 1, 0, none⟩ = some (.bool b') := by subst hW0; simp [go_sem]
  have f10 : W0.frozen? ⟨w.heap.size + 1, 0, none⟩ = false := by subst hW0; simp [go_sem]
  have c11 : W0.cell? ⟨w.heap.size + 1, 1, none⟩ = some (.slice A' n' c') := by subst hW0; simp [go_sem]
  have f11 : W0.frozen? ⟨w.heap.size + 1, 1, none⟩ = false := by subst hW0; simp [go_sem]
  have c20 : W0.cell? ⟨w.heap.size + 1 + 1, 0, none⟩ = some (.bool false) := by subst hW0; simp [go_sem]
  have f20 : W0.frozen? ⟨w.heap.size + 1 + 1, 0, none⟩ = false := by subst hW0; simp [go_sem]
  have c21 : W0.cell? ⟨w.heap.size + 1 + 1, 1, none⟩ = some (.slice none 0 0) := by subst hW0; simp [go_sem]
  have f21 : W0.frozen? ⟨w.heap.size + 1 + 1, 1, none⟩ = false := by subst hW0; simp [go_sem]
  have c30 : W0.cell? ⟨w.heap.size + 1 + 1 + 1, 0, none⟩ = some (.bool false) := by subst hW0; simp [go_sem]
  have f30 : W0.frozen? ⟨w.heap.size + 1 + 1 + 1, 0, none⟩ = false := by subst hW0; simp [go_sem]
  have c31 : W0.cell? ⟨w.heap.size + 1 + 1 + 1, 1, none⟩ = some (.slice none 0 0) := by subst hW0; simp [go_sem]
  have f31 : W0.frozen? ⟨w.heap.size + 1 + 1 + 1, 1, none⟩ = false := by subst hW0; simp [go_sem]
  have x0 : Box W0 w.heap.size 82 := by subst hW0; exact (((boxAt _ _ _ (by simp)).alloc _).alloc _).alloc _
  have x1 : Box W0 (w.heap.size + 1) 82 := by subst hW0; exact ((boxAt _ _ _ (by simp)).alloc _).alloc _
  have x2 : Box W0 (w.heap.size + 1 + 1) 82 := by subst hW0; exact (boxAt _ _ _ (by simp)).alloc _
  have x3 : Box W0 (w.heap.size + 1 + 1 + 1) 82 := by subst hW0; exact boxAt _ _ _ (by simp)
  have hm0 : Made (w.heap.size + 1 + 1) (w.heap.size + 1 + 1 + 1 + 1) 2 W0 := by subst hW0; exact made2 (by simp) rfl
  have hs0 : w.heap.size + 1 + 1 + 1 + 1 ≤ W0.heap.size := by subst hW0; simp
  clear hW0
  have wa := wa.belw b0
  have wb := wb.belw b0
  have r0 : Below W0.heap.size W0 W0 := brefl _
  go_wp2_with (first
    | (go_at_call 81; (with_reducible refine (r_sign_x _ b' A' n' c' l' s0 ?_ ?_ ?_).mono ?_); (exact wb); (omega); (exact HSG.out); rintro e w1 ⟨rfl, hb1⟩; have r1 := bnext r0 hb1; replace wa := wa.belw hb1; replace wb := wb.belw hb1; (try clear sc sf sr sz); obtain ⟨⟨sc, sf⟩, sr, sz⟩ := Seen.of (by omega) hs0 hm0 r1))
  (try clear sc sf sr sz)
  have hRB : w.heap.size + 1 + 1 ≤ w.heap.size + 1 + 1 + 1 + 1 := by omega
  go_region_held3 (fun w' => Sees (w.heap.size + 1 + 1) W0 w') (first | exact Sees.of (Nat.le_trans hRB hs0) (by assumption) | exact Sees.of (Nat.le_trans hRB hs0) (below_drewN (by assumption) _))
    (first
      | (go_at_call 83; (with_reducible refine (r_mag_c _ b A n c l ?_ ?_).mono ?_); (exact wa); (omega); rintro e w2 ⟨A2, n2, c2, rfl, h2, hb2⟩; replace hb2 := bnext (below_drewN (brefl _) 1) hb2; have r2 := bnext r1 hb2; replace wa := wa.belw hb2; replace wb := wb.belw hb2)
      | (go_at_call 83; (with_reducible refine (r_mag_c _ b' A' n' c' l' ?_ ?_).mono ?_); (exact wb); (omega); rintro e w3 ⟨A3, n3, c3, rfl, h3, hb3⟩; have r3 := bnext r2 hb3; replace wa := wa.belw hb3; replace wb := wb.belw hb3; replace h2 := h2.belw hb3)
      | (go_at_call 116; (with_reducible refine (r_divide_e _ A2 n2 c2 (WD.m ⟨b, l⟩) ?_ ?_ A3 n3 c3 (WD.m ⟨b', l'⟩) ?_ ?_ x y ?_ ?_ ?_).mono ?_); (exact h2); (exact h2.m_len (by rw [← HL.out]; exact hn)); (exact h3); (exact h3.m_len (by rw [← HL'.out]; exact hn')); (exact HX.out.1); (exact HX.out.2); (exact HY.out); rintro e w4 ⟨A4, n4, c4, A5, n5, c5, rfl, h4, h5, hb4⟩; have r4 := bnext r3 hb4; replace wa := wa.belw hb4; replace wb := wb.belw hb4; replace h2 := h2.belw hb4; replace h3 := h3.belw hb4))
  obtain ⟨⟨sc, sf⟩, sr, sz⟩ := Seen.of (by omega) hs0 hm0 r4
  clear hRB
  have hn4 : n4 ≤ 1000000000000 := by
    rw [h4.2.1]; exact dlen (Nat.lt_of_le_of_lt (Nat.div_le_self _ _) (HX.out.1 ▸ h2.vlt (Nat.le_refl _))) (h2.m_len (by rw [← HL.out]; exact hn))
  have hn5 : n5 = 0 := by rw [h5.2.1, HR0.out, digs_zero]; rfl
  subst hn5
  cases sa
  · go_wp2_with (first
      | (go_at_call 85; (with_reducible refine (r_neg_e _ b A n c l false ?_ ?_ ?_).mono ?_); (exact wa); (omega); (exact HS.out.1); rintro e w5 ⟨rfl, hb5⟩; have r5 := bnext r4 hb5; replace wa := wa.belw hb5; replace wb := wb.belw hb5; replace h2 := h2.belw hb5; replace h3 := h3.belw hb5; replace h4 := h4.belw hb5; replace h5 := h5.belw hb5; (try clear sc sf sr sz); obtain ⟨⟨sc, sf⟩, sr, sz⟩ := Seen.of (by omega) hs0 hm0 r5))
    have HZ := Lib.hid (div_plain (sa := false) (sb := sb) (x := x) HY.out (.inr HR0.out))
    (try clear sc sf sr sz)
    have hRB : w.heap.size + 1 + 1 ≤ w.heap.size + 1 + 1 + 1 + 1 := by omega
    go_region_held3 (fun w' => Sees (w.heap.size + 1 + 1) W0 w') (first | exact Sees.of (Nat.le_trans hRB hs0) (by assumption) | exact Sees.of (Nat.le_trans hRB hs0) (below_drewN (by assumption) _) | exact (Sees.set (Sees.of (Nat.le_trans hRB hs0) (by assumption)) (by simp)) | exact (Sees.set (Sees.set (Sees.of (Nat.le_trans hRB hs0) (by assumption)) (by simp)) (by simp)) | exact (Sees.set (Sees.set (Sees.set (Sees.of (Nat.le_trans hRB hs0) (by assumption)) (by simp)) (by simp)) (by simp)) | exact (Sees.set (Sees.set (Sees.set (Sees.set (Sees.of (Nat.le_trans hRB hs0) (by assumption)) (by simp)) (by simp)) (by simp)) (by simp)))
      (first
        | (go_at_call 85; (with_reducible refine (r_neg_e _ b A n c l false ?_ ?_ ?_).mono ?_); (exact wa); (omega); (exact HS.out.1); rintro e w6 ⟨rfl, hb6⟩; replace hb6 := bnext (below_drewN (brefl _) 1) hb6; have r6 := bnext r5 hb6; replace wa := wa.belw hb6; replace wb := wb.belw hb6; replace h2 := h2.belw hb6; replace h3 := h3.belw hb6; replace h4 := h4.belw hb6; replace h5 := h5.belw hb6)
        | (go_at_call 85; (with_reducible refine (r_neg_e _ b' A' n' c' l' sb ?_ ?_ ?_).mono ?_); (exact wb); (omega); (exact HS.out.2); rintro e w7 ⟨rfl, hb7⟩; have r7 := bnext r6 hb7; replace wa := wa.belw hb7; replace wb := wb.belw hb7; replace h2 := h2.belw hb7; replace h3 := h3.belw hb7; replace h4 := h4.belw hb7; replace h5 := h5.belw hb7)
        | (go_at_call 91; (with_reducible refine (r_form_e _ sb A4 n4 c4 (digs (x / y)) (sgn false x / sgn sb y) ?_ ?_ ?_).mono ?_); (exact h4); (omega); (rw [HZ.out.1, val_digs]; cases sb <;> rfl); rintro e w8 ⟨A8, n8, c8, rfl, h8, hb8⟩; have r8 := bnext r7 hb8; replace wa := wa.belw hb8; replace wb := wb.belw hb8; replace h2 := h2.belw hb8; replace h3 := h3.belw hb8; replace h4 := h4.belw hb8; replace h5 := h5.belw hb8)
        | (go_at_call 91; (with_reducible refine (r_form_e _ false A5 0 c5 (digs (x % y)) (sgn false x % sgn sb y) ?_ ?_ ?_).mono ?_); (exact h5); (omega); (rw [HZ.out.2, val_digs]; rfl); rintro e w9 ⟨A9, n9, c9, rfl, h9, hb9⟩; have r9 := bnext r8 hb9; replace wa := wa.belw hb9; replace wb := wb.belw hb9; replace h2 := h2.belw hb9; replace h3 := h3.belw hb9; replace h4 := h4.belw hb9; replace h5 := h5.belw hb9; replace h8 := h8.belw hb9; obtain ⟨⟨sc, sf⟩, sr, sz⟩ := Seen.of (by omega) hs0 hm0 r9))
    clear hRB
    go_wp2_with fail
    refine bodyPost_ret (v := .tuple #[.agg #[.bool _, .slice A8 n8 c8], .agg #[.bool _, .slice A9 n9 c9], .int .i64 0]) (by simp [results, Tryz.results94, go_sem, sr]; first | rfl | exact ⟨rfl, rfl⟩) rfl ?_
    have y2 := x2.below r9
    have y3 := x3.below r9
    refine ⟨A8, n8, c8, A9, n9, c9, rfl, ?_, ?_, ?_⟩
    · exact h8.keep (kp4 y2 y3 (by decide) (by decide) _ _ _ _ _ _ _ _)
    · exact h9.keep (kp4 y2 y3 (by decide) (by decide) _ _ _ _ _ _ _ _)
    · exact ((((b0.trans (r9.mono b0.size)).setCell (by dsimp only; omega) _).setCell (by dsimp only; omega) _).setCell (by dsimp only; omega) _).setCell (by dsimp only; omega) _
  · go_wp2_with (first
      | (go_at_call 85; (with_reducible refine (r_neg_e _ b A n c l true ?_ ?_ ?_).mono ?_); (exact wa); (omega); (exact HS.out.1); rintro e w5 ⟨rfl, hb5⟩; have r5 := bnext r4 hb5; replace wa := wa.belw hb5; replace wb := wb.belw hb5; replace h2 := h2.belw hb5; replace h3 := h3.belw hb5; replace h4 := h4.belw hb5; replace h5 := h5.belw hb5; (try clear sc sf sr sz); obtain ⟨⟨sc, sf⟩, sr, sz⟩ := Seen.of (by omega) hs0 hm0 r5))
    have HZ := Lib.hid (div_plain (sa := true) (sb := sb) (x := x) HY.out (.inr HR0.out))
    (try clear sc sf sr sz)
    have hRB : w.heap.size + 1 + 1 ≤ w.heap.size + 1 + 1 + 1 + 1 := by omega
    go_region_held3 (fun w' => Sees (w.heap.size + 1 + 1) W0 w') (first | exact Sees.of (Nat.le_trans hRB hs0) (by assumption) | exact Sees.of (Nat.le_trans hRB hs0) (below_drewN (by assumption) _) | exact (Sees.set (Sees.of (Nat.le_trans hRB hs0) (by assumption)) (by simp)) | exact (Sees.set (Sees.set (Sees.of (Nat.le_trans hRB hs0) (by assumption)) (by simp)) (by simp)) | exact (Sees.set (Sees.set (Sees.set (Sees.of (Nat.le_trans hRB hs0) (by assumption)) (by simp)) (by simp)) (by simp)) | exact (Sees.set (Sees.set (Sees.set (Sees.set (Sees.of (Nat.le_trans hRB hs0) (by assumption)) (by simp)) (by simp)) (by simp)) (by simp)))
      (first
        | (go_at_call 85; (with_reducible refine (r_neg_e _ b A n c l true ?_ ?_ ?_).mono ?_); (exact wa); (omega); (exact HS.out.1); rintro e w6 ⟨rfl, hb6⟩; replace hb6 := bnext (below_drewN (brefl _) 1) hb6; have r6 := bnext r5 hb6; replace wa := wa.belw hb6; replace wb := wb.belw hb6; replace h2 := h2.belw hb6; replace h3 := h3.belw hb6; replace h4 := h4.belw hb6; replace h5 := h5.belw hb6)
        | (go_at_call 85; (with_reducible refine (r_neg_e _ b' A' n' c' l' sb ?_ ?_ ?_).mono ?_); (exact wb); (omega); (exact HS.out.2); rintro e w7 ⟨rfl, hb7⟩; have r7 := bnext r6 hb7; replace wa := wa.belw hb7; replace wb := wb.belw hb7; replace h2 := h2.belw hb7; replace h3 := h3.belw hb7; replace h4 := h4.belw hb7; replace h5 := h5.belw hb7)
        | (go_at_call 91; (with_reducible refine (r_form_e _ (!sb) A4 n4 c4 (digs (x / y)) (sgn true x / sgn sb y) ?_ ?_ ?_).mono ?_); (exact h4); (omega); (rw [HZ.out.1, val_digs]; cases sb <;> rfl); rintro e w8 ⟨A8, n8, c8, rfl, h8, hb8⟩; have r8 := bnext r7 hb8; replace wa := wa.belw hb8; replace wb := wb.belw hb8; replace h2 := h2.belw hb8; replace h3 := h3.belw hb8; replace h4 := h4.belw hb8; replace h5 := h5.belw hb8)
        | (go_at_call 91; (with_reducible refine (r_form_e _ false A5 0 c5 (digs (x % y)) (sgn true x % sgn sb y) ?_ ?_ ?_).mono ?_); (exact h5); (omega); (rw [HZ.out.2, val_digs]; rfl); rintro e w9 ⟨A9, n9, c9, rfl, h9, hb9⟩; have r9 := bnext r8 hb9; replace wa := wa.belw hb9; replace wb := wb.belw hb9; replace h2 := h2.belw hb9; replace h3 := h3.belw hb9; replace h4 := h4.belw hb9; replace h5 := h5.belw hb9; replace h8 := h8.belw hb9; obtain ⟨⟨sc, sf⟩, sr, sz⟩ := Seen.of (by omega) hs0 hm0 r9))
    clear hRB
    go_wp2_with fail
    refine bodyPost_ret (v := .tuple #[.agg #[.bool _, .slice A8 n8 c8], .agg #[.bool _, .slice A9 n9 c9], .int .i64 0]) (by simp [results, Tryz.results94, go_sem, sr]; first | rfl | exact ⟨rfl, rfl⟩) rfl ?_
    have y2 := x2.below r9
    have y3 := x3.below r9
    refine ⟨A8, n8, c8, A9, n9, c9, rfl, ?_, ?_, ?_⟩
    · exact h8.keep (kp4 y2 y3 (by decide) (by decide) _ _ _ _ _ _ _ _)
    · exact h9.keep (kp4 y2 y3 (by decide) (by decide) _ _ _ _ _ _ _ _)
    · exact ((((b0.trans (r9.mono b0.size)).setCell (by dsimp only; omega) _).setCell (by dsimp only; omega) _).setCell (by dsimp only; omega) _).setCell (by dsimp only; omega) _
theorem r01_div (w : World) (b : Bool) (A : Option Addr) (n c : Nat) (z : Int) (k : Nat) (h : IZ w b A n c z k) (b' : Bool) (A' : Option Addr) (n' c' : Nat) (z' : Int) (k' : Nat) (h' : IZ w b' A' n' c' z' k') (hk : k + k' ≤ 1000000000) (h0 : z' ≠ 0) (hr : z % z' = 0) : Calls Tryz.prog 94 #[.agg #[.bool b, .slice A n c], .agg #[.bool b', .slice A' n' c']] w (RetDv w (.int .i64 0) (z / z') (z % z') (k + k')) := by
  have hz := h.mono (Nat.le_add_right k k') |>.lt
  have hz' := h'.mono (Nat.le_add_left k' k) |>.lt
  obtain ⟨l, h1, rfl, h3⟩ := h
  obtain ⟨l', h1', rfl, h3'⟩ := h'
  refine (r_div_C w b A n c l h1 (by omega) b' A' n' c' l' h1' (by omega) h0 hr).mono fun _ _ r => ?_
  obtain ⟨A1, n1, c1, A2, n2, c2, rfl, r1, r2, r3⟩ := r
  refine ⟨_, A1, n1, c1, _, A2, n2, c2, rfl, IV.mk_ r1 rfl ?_, IV.mk_ r2 rfl ?_, r3⟩
  · exact Nat.lt_of_le_of_lt (Int.natAbs_ediv_le_natAbs _ _) hz
  · have e1 := Int.emod_nonneg (WD.z ⟨b, l⟩) h0
    have e2 := Int.emod_lt (WD.z ⟨b, l⟩) h0
    omega
end Go.Proofs.YtckjakojllcdoaaGreatDoor

/- Walks: the reference: fractions in lowest terms. -/
namespace Go.Proofs.YtckjakojllcdoaaGreatDoor
open Go Go.RowKit Bn
attribute [local go_sem ↓] Go.wp_at_zero Go.wp_at_succ
theorem r01_sign_e (w : World) (b : Bool) (A : Option Addr) (n c : Nat) (z : Int) (k : Nat) (h : IZ w b A n c z k) (s : Int) (hs : z.sign = s) (hk : k ≤ 1000000000) : Calls Tryz.prog 81 #[.agg #[.bool b, .slice A n c]] w (RetV w (.int .i64 s)) := by
  subst hs; exact r01_sign w b A n c z k h hk
theorem form_any {z d : Int} {q : Rat} (hz : z ≠ 0) (hd : 0 < d) (hq : Rat.divInt z d = q) :
    (rd q).num = (wh (z / ((Nat.gcd z.natAbs d.natAbs : Nat) : Int))).mag ∧ (rd q).den = (wh (d / ((Nat.gcd z.natAbs d.natAbs : Nat) : Int))).mag ∧ (rd q).neg = (wh (z / ((Nat.gcd z.natAbs d.natAbs : Nat) : Int))).neg := by
  rw [← hq, rd_divInt hz hd, wh_div _ hd]
  have hg : 0 < Nat.gcd z.natAbs d.natAbs := Nat.gcd_pos_of_pos_right _ (by omega)
  have hdv : ((Nat.gcd z.natAbs d.natAbs : Nat) : Int) ∣ z := Int.ofNat_dvd_left.2 (Nat.gcd_dvd_left _ _)
  generalize Nat.gcd z.natAbs d.natAbs = g at *
  obtain ⟨m, rfl⟩ := hdv
  have e : (g : Int) * m / (g : Int) = m := Int.mul_ediv_cancel_left _ (by omega)
  have e2 : ((g : Int) * m).natAbs / g = m.natAbs := by rw [Int.natAbs_mul, Int.natAbs_natCast]; exact Nat.mul_div_cancel_left _ hg
  rw [e, e2]
  refine ⟨rfl, rfl, ?_⟩
  unfold wh
  simp only [decide_eq_decide]
  constructor
  · intro h; rcases (show m < 0 ∨ 0 ≤ m by omega) with h1 | h1; exact h1; exact absurd (Int.mul_nonneg (Int.natCast_nonneg g) h1) (by omega)
  · intro h; exact Int.mul_neg_of_pos_of_neg (by omega) h
theorem g_form_0 (w : World) (b : Bool) (A : Option Addr) (n c : Nat) (z : Int) (k : Nat) (h : IZ w b A n c z k) (b' : Bool) (A' : Option Addr) (n' c' : Nat) (z' : Int) (k' : Nat) (h' : IZ w b' A' n' c' z' k') (K : Nat) (hz : z = 0) (hk : k + k' ≤ 300000000) :
  Calls Tryz.prog 61 #[.agg #[.bool b, .slice A n c], .agg #[.bool b', .slice A' n' c']] w (RetF w 0 K) := by
 have HZ := Lib.hid (show z.sign = 0 by rw [hz]; rfl)
 clear hz
 go_enter Tryz.func61, Tryz.ntmps61
 go_wp2_with fail
 (with_reducible refine (r01_sign_e _ b A n c (z) (k) ?_ (0) ?_ ?_).mono ?_); (exact (h.belw ((((Below.refl _ _).alloc (Nat.le_refl _) _).alloc (by simp) _).alloc (by simp <;> omega) _))); (exact HZ.out); (omega); rintro e w1 ⟨rfl, hb1⟩
 have q1 := ((((Below.refl _ _).alloc (Nat.le_refl _) _).alloc (by simp) _).alloc (by simp <;> omega) _).trans (hb1.mono (by simp <;> omega))
 replace h := h.belw q1
 replace h' := h'.belw q1
 have x1a : Blk w1 w.heap.size 82 #[.bool b, .slice A n c] := (((blkAt _ _ _ (by simp)).alloc _).alloc _).below hb1 (by simp <;> omega)
 have x1b := ((blkAt _ _ _ (g := w.heap.size + 1) (by simp)).alloc _).below hb1 (by simp <;> omega)
 have x1c := (blkAt _ _ _ (g := w.heap.size + 1 + 1) (by simp)).below hb1 (by simp)
 have bw1 := (brefl w).trans (q1.mono (brefl w).size)
 have lw1 : w.heap.size + 3 ≤ w1.heap.size := by have := hb1.size; simp at this; omega
 clear q1
 obtain ⟨cx1ca, cx1cb, cx1cc⟩ := x1c.c3
 obtain ⟨fx1ca, fx1cb, fx1cc⟩ := x1c.f3
 obtain ⟨lx1ca, lx1cb, lx1cc, lx1cd⟩ := lts2 x1c.lt
 go_wp2_with fail
 refine bodyPost_ret (v := .agg #[.bool false, .slice none 0 0, .slice none 0 0]) (by simp [results, Tryz.results61, go_sem, *] <;> first | rfl | exact ⟨rfl, rfl⟩) rfl ?_
 exact ⟨false, none, 0, 0, none, 0, 0, rfl, QV.zero _ _, (((bw1.sc (w.heap.size + 1 + 1) 0 (by omega) (.bool false)).sc (w.heap.size + 1 + 1) 1 (by omega) (.slice none 0 0)).sc (w.heap.size + 1 + 1) 2 (by omega) (.slice none 0 0))⟩
theorem g_form_p (w : World)  (b : Bool) (A : Option Addr) (n c : Nat) (z : Int) (k : Nat) (h : IZ w b A n c z k) (b' : Bool) (A' : Option Addr) (n' c' : Nat) (z' : Int) (k' : Nat) (h' : IZ w b' A' n' c' z' k') (q : Rat) (K : Nat) (hz : z ≠ 0) (hd : z'.sign = 1) (hq : Rat.divInt z z' = q) (hs : Sz q K) (hk : k + k' ≤ 300000000) :
  Calls Tryz.prog 61 #[.agg #[.bool b, .slice A n c], .agg #[.bool b', .slice A' n' c']] w (RetF w q K) := by
 obtain ⟨s, hs1⟩ : ∃ s, z.sign = s := ⟨_, rfl⟩
 have e0 : ((s : Int) == 0) = false := by simp; rintro rfl; exact hz (Int.sign_eq_zero_iff_zero.1 hs1)
 have HZ := Lib.hid hs1
 have HD := Lib.hid hd
 have HN := Lib.hid (show z ≠ 0 by omega)
 have HP := Lib.hid (show 0 < z' by exact sign_pos hd)
 have HG := Lib.hid (show ((Nat.gcd (z).natAbs (z').natAbs : Nat) : Int) ≠ 0 from gcd_ne HP.out)
 have HM1 := Lib.hid (show z % ((Nat.gcd (z).natAbs (z').natAbs : Nat) : Int) = 0 from Int.emod_eq_zero_of_dvd (Int.ofNat_dvd_left.2 (Nat.gcd_dvd_left _ _)))
 have HM2 := Lib.hid (show z' % ((Nat.gcd (z).natAbs (z').natAbs : Nat) : Int) = 0 from Int.emod_eq_zero_of_dvd (Int.ofNat_dvd_left.2 (Nat.gcd_dvd_right _ _)))
 have HQ := Lib.hid (show Rat.divInt z z' = q by exact hq)
 have HS := Lib.hid hs
 clear hz hd hq hs hs1
 go_enter Tryz.func61, Tryz.ntmps61
 go_wp2_with fail
 (with_reducible refine (r01_sign_e _ b A n c (z) (k) ?_ (s) ?_ ?_).mono ?_); (exact (h.belw ((((Below.refl _ _).alloc (Nat.le_refl _) _).alloc (by simp) _).alloc (by simp <;> omega) _))); (exact HZ.out); (omega); rintro e w1 ⟨rfl, hb1⟩
 have q1 := ((((Below.refl _ _).alloc (Nat.le_refl _) _).alloc (by simp) _).alloc (by simp <;> omega) _).trans (hb1.mono (by simp <;> omega))
 replace h := h.belw q1
 replace h' := h'.belw q1
 have x1a : Blk w1 w.heap.size 82 #[.bool b, .slice A n c] := (((blkAt _ _ _ (by simp)).alloc _).alloc _).below hb1 (by simp <;> omega)
 have x1b := ((blkAt _ _ _ (g := w.heap.size + 1) (by simp)).alloc _).below hb1 (by simp <;> omega)
 have x1c := (blkAt _ _ _ (g := w.heap.size + 1 + 1) (by simp)).below hb1 (by simp)
 have bw1 := (brefl w).trans (q1.mono (brefl w).size)
 have lw1 : w.heap.size + 3 ≤ w1.heap.size := by have := hb1.size; simp at this; omega
 clear q1
 obtain ⟨cx1ba, cx1bb⟩ := x1b.c2
 obtain ⟨lx1ba, lx1bb, lx1bc, lx1bd⟩ := lts1 x1b.lt
 go_wp2_with fail
 (with_reducible refine (r01_sign_e _ b' A' n' c' (z') (k') ?_ (1) ?_ ?_).mono ?_); (exact h'); (exact HD.out); (omega); rintro e w2 ⟨rfl, q2⟩
 clear cx1ba cx1bb lx1ba lx1bb lx1bc lx1bd
 replace h := h.belw q2
 replace h' := h'.belw q2
 replace x1a := x1a.b q2
 replace x1b := x1b.b q2
 replace x1c := x1c.b q2
 have bw2 := bw1.trans (q2.mono bw1.size)
 have lw2 := q2.size
 clear q2 bw1
 obtain ⟨cx1aa, cx1ab⟩ := x1a.c2
 obtain ⟨lx1aa, lx1ab, lx1ac, lx1ad⟩ := lts0 x1a.lt
 obtain ⟨cx1ba, cx1bb⟩ := x1b.c2
 obtain ⟨lx1ba, lx1bb, lx1bc, lx1bd⟩ := lts1 x1b.lt
 go_wp2_with fail
 (with_reducible refine (r01_gcd _ b A n c (z) (k) ?_ b' A' n' c' (z') (k') ?_ ?_).mono ?_); (exact h); (exact h'); (first | omega | decide | assumption); rintro e w3 ⟨b3, A3, n3, c3, rfl, h3, q3⟩
 clear cx1aa cx1ab lx1aa lx1ab lx1ac lx1ad cx1ba cx1bb lx1ba lx1bb lx1bc lx1bd
 replace h := h.belw q3
 replace h' := h'.belw q3
 replace x1a := x1a.b q3
 replace x1b := x1b.b q3
 replace x1c := x1c.b q3
 have bw3 := bw2.trans (q3.mono bw2.size)
 have lw3 := q3.size
 clear q3 bw2
 obtain ⟨cx1aa, cx1ab⟩ := x1a.c2
 obtain ⟨lx1aa, lx1ab, lx1ac, lx1ad⟩ := lts0 x1a.lt
 go_wp2_with fail
 (with_reducible refine (r01_div _ b A n c (z) (k) ?_ b3 A3 n3 c3 ((Nat.gcd ((z)).natAbs ((z')).natAbs : Nat)) ((k) + (k')) ?_  ?_ ?_ ?_).mono ?_); (exact (h.belw ((Below.refl _ _).alloc (Nat.le_refl _) _))); (exact (h3.belw ((Below.refl _ _).alloc (Nat.le_refl _) _)).iz); (omega); (exact HG.out); (exact HM1.out); rintro e w4 ⟨b4, A4, n4, c4, b'4, A'4, n'4, c'4, rfl, h4, h'4, hb4⟩
 clear cx1aa cx1ab lx1aa lx1ab lx1ac lx1ad
 have q4 := ((Below.refl _ _).alloc (Nat.le_refl _) _).trans (hb4.mono (by simp))
 replace h := h.belw q4
 replace h' := h'.belw q4
 replace h3 := h3.belw q4
 replace x1a := x1a.b q4
 replace x1b := x1b.b q4
 replace x1c := x1c.b q4
 have x4a : Blk w4 w3.heap.size 82 #[.bool b3, .slice A3 n3 c3] := (blkAt _ _ _ (by simp)).below hb4 (by simp)
 have bw4 := bw3.trans (q4.mono bw3.size)
 have lw4 : w3.heap.size + 1 ≤ w4.heap.size := by have := hb4.size; simp at this; omega
 clear q4 bw3
 obtain ⟨cx1ba, cx1bb⟩ := x1b.c2
 obtain ⟨lx1ba, lx1bb, lx1bc, lx1bd⟩ := lts1 x1b.lt
 obtain ⟨cx4aa, cx4ab⟩ := x4a.c2
 obtain ⟨lx4aa, lx4ab, lx4ac, lx4ad⟩ := lts0 x4a.lt
 go_wp2_with fail
 (with_reducible refine (r01_div _ b' A' n' c' (z') (k') ?_ b3 A3 n3 c3 ((Nat.gcd ((z)).natAbs ((z')).natAbs : Nat)) ((k) + (k')) ?_  ?_ ?_ ?_).mono ?_); (exact (h'.belw (((Below.refl _ _).alloc (Nat.le_refl _) _).alloc (by simp) _))); (exact (h3.belw (((Below.refl _ _).alloc (Nat.le_refl _) _).alloc (by simp) _)).iz); (omega); (exact HG.out); (exact HM2.out); rintro e w5 ⟨b5, A5, n5, c5, b'5, A'5, n'5, c'5, rfl, h5, h'5, hb5⟩
 clear cx1ba cx1bb lx1ba lx1bb lx1bc lx1bd cx4aa cx4ab lx4aa lx4ab lx4ac lx4ad
 have q5 := (((Below.refl _ _).alloc (Nat.le_refl _) _).alloc (by simp) _).trans (hb5.mono (by simp <;> omega))
 replace h := h.belw q5
 replace h' := h'.belw q5
 replace h3 := h3.belw q5
 replace h4 := h4.belw q5
 replace h'4 := h'4.belw q5
 replace x1a := x1a.b q5
 replace x1b := x1b.b q5
 replace x1c := x1c.b q5
 replace x4a := x4a.b q5
 have x5a : Blk w5 w4.heap.size 82 #[.bool b4, .slice A4 n4 c4] := ((blkAt _ _ _ (by simp)).alloc _).below hb5 (by simp <;> omega)
 have x5b := (blkAt _ _ _ (g := w4.heap.size + 1) (by simp)).below hb5 (by simp)
 have bw5 := bw4.trans (q5.mono bw4.size)
 have lw5 : w4.heap.size + 2 ≤ w5.heap.size := by have := hb5.size; simp at this; omega
 clear q5 bw4
 obtain ⟨cx1ca, cx1cb, cx1cc⟩ := x1c.c3
 obtain ⟨fx1ca, fx1cb, fx1cc⟩ := x1c.f3
 obtain ⟨lx1ca, lx1cb, lx1cc, lx1cd⟩ := lts2 x1c.lt
 obtain ⟨cx5aa, cx5ab⟩ := x5a.c2
 obtain ⟨lx5aa, lx5ab, lx5ac, lx5ad⟩ := lts0 x5a.lt
 go_wp2_with fail
 refine bodyPost_ret (v := .agg #[.bool b4, .slice A4 n4 c4, .slice A5 n5 c5]) (by simp [results, Tryz.results61, go_sem, *] <;> first | rfl | exact ⟨rfl, rfl⟩) rfl ?_
 obtain ⟨e1, e2, e3⟩ := form_any HN.out HP.out HQ.out
 exact ⟨_, _, _, _, _, _, _, rfl, QV.mk_ (by rw [e1]; exact h4.2.1.keep ((((((Kp.refl w5).sb (w.heap.size + 1 + 1) 0 x1c.box (by decide) (.bool b4)).sb (w.heap.size + 1 + 1) 1 (x1c.box.set ⟨w.heap.size + 1 + 1, 0, none⟩ (.bool b4)) (by decide) (.slice A4 n4 c4)).sb (w.heap.size + 1 + 1) 2 ((x1c.box.set ⟨w.heap.size + 1 + 1, 0, none⟩ (.bool b4)).set ⟨w.heap.size + 1 + 1, 1, none⟩ (.slice A4 n4 c4)) (by decide) (.slice A5 n5 c5)).alloc (.cells #[.bool b5, .slice A5 n5 c5] 82)).alloc (.cells #[.bool b'5, .slice A'5 n'5 c'5] 82))) (by rw [e2]; exact h5.2.1.keep ((((((Kp.refl w5).sb (w.heap.size + 1 + 1) 0 x1c.box (by decide) (.bool b4)).sb (w.heap.size + 1 + 1) 1 (x1c.box.set ⟨w.heap.size + 1 + 1, 0, none⟩ (.bool b4)) (by decide) (.slice A4 n4 c4)).sb (w.heap.size + 1 + 1) 2 ((x1c.box.set ⟨w.heap.size + 1 + 1, 0, none⟩ (.bool b4)).set ⟨w.heap.size + 1 + 1, 1, none⟩ (.slice A4 n4 c4)) (by decide) (.slice A5 n5 c5)).alloc (.cells #[.bool b5, .slice A5 n5 c5] 82)).alloc (.cells #[.bool b'5, .slice A'5 n'5 c'5] 82))) (by rw [e3]; exact h4.1.symm) HS.out, (((((bw5.sc (w.heap.size + 1 + 1) 0 (by omega) (.bool b4)).sc (w.heap.size + 1 + 1) 1 (by omega) (.slice A4 n4 c4)).sc (w.heap.size + 1 + 1) 2 (by omega) (.slice A5 n5 c5)).alloc (by first | omega | (simp <;> omega)) (.cells #[.bool b5, .slice A5 n5 c5] 82)).alloc (by first | omega | (simp <;> omega)) (.cells #[.bool b'5, .slice A'5 n'5 c'5] 82))⟩
theorem g_form_n (w : World)  (b : Bool) (A : Option Addr) (n c : Nat) (z : Int) (k : Nat) (h : IZ w b A n c z k) (b' : Bool) (A' : Option Addr) (n' c' : Nat) (z' : Int) (k' : Nat) (h' : IZ w b' A' n' c' z' k') (q : Rat) (K : Nat) (hz : z ≠ 0) (hd : z'.sign = -1) (hq : Rat.divInt z z' = q) (hs : Sz q K) (hk : k + k' ≤ 300000000) :
  Calls Tryz.prog 61 #[.agg #[.bool b, .slice A n c], .agg #[.bool b', .slice A' n' c']] w (RetF w q K) := by
 obtain ⟨s, hs1⟩ : ∃ s, z.sign = s := ⟨_, rfl⟩
 have e0 : ((s : Int) == 0) = false := by simp; rintro rfl; exact hz (Int.sign_eq_zero_iff_zero.1 hs1)
 have HZ := Lib.hid hs1
 have HD := Lib.hid hd
 have HN := Lib.hid (show (-z) ≠ 0 by omega)
 have HP := Lib.hid (show 0 < (-z') by exact sign_neg_ hd)
 have HG := Lib.hid (show ((Nat.gcd ((-z)).natAbs ((-z')).natAbs : Nat) : Int) ≠ 0 from gcd_ne HP.out)
 have HM1 := Lib.hid (show (-z) % ((Nat.gcd ((-z)).natAbs ((-z')).natAbs : Nat) : Int) = 0 from Int.emod_eq_zero_of_dvd (Int.ofNat_dvd_left.2 (Nat.gcd_dvd_left _ _)))
 have HM2 := Lib.hid (show (-z') % ((Nat.gcd ((-z)).natAbs ((-z')).natAbs : Nat) : Int) = 0 from Int.emod_eq_zero_of_dvd (Int.ofNat_dvd_left.2 (Nat.gcd_dvd_right _ _)))
 have HQ := Lib.hid (show Rat.divInt (-z) (-z') = q by rw [divInt_neg_neg _ _ (sign_ne hd)]; exact hq)
 have HS := Lib.hid hs
 clear hz hd hq hs hs1
 go_enter Tryz.func61, Tryz.ntmps61
 go_wp2_with fail
 (with_reducible refine (r01_sign_e _ b A n c (z) (k) ?_ (s) ?_ ?_).mono ?_); (exact (h.belw ((((Below.refl _ _).alloc (Nat.le_refl _) _).alloc (by simp) _).alloc (by simp <;> omega) _))); (exact HZ.out); (omega); rintro e w1 ⟨rfl, hb1⟩
 have q1 := ((((Below.refl _ _).alloc (Nat.le_refl _) _).alloc (by simp) _).alloc (by simp <;> omega) _).trans (hb1.mono (by simp <;> omega))
 replace h := h.belw q1
 replace h' := h'.belw q1
 have x1a : Blk w1 w.heap.size 82 #[.bool b, .slice A n c] := (((blkAt _ _ _ (by simp)).alloc _).alloc _).below hb1 (by simp <;> omega)
 have x1b := ((blkAt _ _ _ (g := w.heap.size + 1) (by simp)).alloc _).below hb1 (by simp <;> omega)
 have x1c := (blkAt _ _ _ (g := w.heap.size + 1 + 1) (by simp)).below hb1 (by simp)
 have bw1 := (brefl w).trans (q1.mono (brefl w).size)
 have lw1 : w.heap.size + 3 ≤ w1.heap.size := by have := hb1.size; simp at this; omega
 clear q1
 obtain ⟨cx1ba, cx1bb⟩ := x1b.c2
 obtain ⟨lx1ba, lx1bb, lx1bc, lx1bd⟩ := lts1 x1b.lt
 go_wp2_with fail
 (with_reducible refine (r01_sign_e _ b' A' n' c' (z') (k') ?_ (-1) ?_ ?_).mono ?_); (exact h'); (exact HD.out); (omega); rintro e w2 ⟨rfl, q2⟩
 clear cx1ba cx1bb lx1ba lx1bb lx1bc lx1bd
 replace h := h.belw q2
 replace h' := h'.belw q2
 replace x1a := x1a.b q2
 replace x1b := x1b.b q2
 replace x1c := x1c.b q2
 have bw2 := bw1.trans (q2.mono bw1.size)
 have lw2 := q2.size
 clear q2 bw1
 go_wp2_with fail
 obtain ⟨cx1aa, cx1ab⟩ := x1a.c2
 obtain ⟨cx1ba, cx1bb⟩ := x1b.c2
 go_cut [2] (fun s2 wx => s2 = .pointer (some ⟨w.heap.size, 0, none⟩) ∧ ∃ b8 A8 n8 c8 b9 A9 n9 c9, Blk wx w.heap.size 82 #[.bool b8, .slice A8 n8 c8] ∧ Blk wx (w.heap.size + 1) 82 #[.bool b9, .slice A9 n9 c9] ∧ Blk wx (w.heap.size + 1 + 1) 41 #[.bool false, .slice none 0 0, .slice none 0 0] ∧ IV wx b8 A8 n8 c8 (-z) k ∧ IV wx b9 A9 n9 c9 (-z') k' ∧ Below w.heap.size w wx ∧ w2.heap.size ≤ wx.heap.size)
 case first =>
  go_region_with (first
   | (go_at_call 92; (with_reducible refine (r01_neg _ b A n c (z) (k) ?_ ?_).mono ?_); (exact h); (omega); rintro e w3 ⟨b4, A4, n4, c4, rfl, h4, hb4⟩; replace hb4 := bnext (below_drewN (brefl _) 1) hb4; replace h' := h'.belw hb4; have bw4 := bw2.trans (hb4.mono bw2.size); have lw4 := hb4.size; replace x1a := x1a.b hb4; replace x1b := x1b.b hb4; replace x1c := x1c.b hb4; obtain ⟨dx1_1_0, dx1_1_1⟩ := x1b.c2)
   | (go_at_call 92; (with_reducible refine (r01_neg _ b' A' n' c' (z') (k') ?_ ?_).mono ?_); (exact h'); (omega); rintro e w4 ⟨b5, A5, n5, c5, rfl, h5, hb5⟩; replace h4 := h4.belw hb5; have bw5 := bw4.trans (hb5.mono bw4.size); have lw5 := hb5.size; replace x1a := x1a.b hb5; replace x1b := x1b.b hb5; replace x1c := x1c.b hb5; obtain ⟨ex1_0_0, ex1_0_1⟩ := x1a.c2; obtain ⟨fx1aa, fx1ab⟩ := x1a.f2; obtain ⟨ex1_1_0, ex1_1_1⟩ := x1b.c2; obtain ⟨fx1ba, fx1bb⟩ := x1b.f2))
  all_goals
   go_wp2_with fail
   go_meet
   have kp := (((((Kp.refl w4).sb w.heap.size 0 x1a.box (by decide) (.bool b4)).sb w.heap.size 1 (x1a.box.set ⟨w.heap.size, 0, none⟩ (.bool b4)) (by decide) (.slice A4 n4 c4)).sb (w.heap.size + 1) 0 ((x1b.box.set ⟨w.heap.size, 0, none⟩ (.bool b4)).set ⟨w.heap.size, 1, none⟩ (.slice A4 n4 c4)) (by decide) (.bool b5)).sb (w.heap.size + 1) 1 (((x1b.box.set ⟨w.heap.size, 0, none⟩ (.bool b4)).set ⟨w.heap.size, 1, none⟩ (.slice A4 n4 c4)).set ⟨w.heap.size + 1, 0, none⟩ (.bool b5)) (by decide) (.slice A5 n5 c5))
   exact ⟨rfl, b4, A4, n4, c4, b5, A5, n5, c5, ((((x1a.set_at 0 (.bool b4) #[.bool b4, .slice A n c] (by simp)).set_at 1 (.slice A4 n4 c4) #[.bool b4, .slice A4 n4 c4] (by simp)).fr (w.heap.size + 1) 0 (by omega) (.bool b5)).fr (w.heap.size + 1) 1 (by omega) (.slice A5 n5 c5)), ((((x1b.fr w.heap.size 0 (by omega) (.bool b4)).fr w.heap.size 1 (by omega) (.slice A4 n4 c4)).set_at 0 (.bool b5) #[.bool b5, .slice A' n' c'] (by simp)).set_at 1 (.slice A5 n5 c5) #[.bool b5, .slice A5 n5 c5] (by simp)), ((((x1c.fr w.heap.size 0 (by omega) (.bool b4)).fr w.heap.size 1 (by omega) (.slice A4 n4 c4)).fr (w.heap.size + 1) 0 (by omega) (.bool b5)).fr (w.heap.size + 1) 1 (by omega) (.slice A5 n5 c5)), h4.keep kp, h5.keep kp, ((((bw5.sc w.heap.size 0 (by omega) (.bool b4)).sc w.heap.size 1 (by omega) (.slice A4 n4 c4)).sc (w.heap.size + 1) 0 (by omega) (.bool b5)).sc (w.heap.size + 1) 1 (by omega) (.slice A5 n5 c5)), by simp [World.setCell]; omega⟩
 case rest =>
  clear h h'
  obtain ⟨rfl, b8, A8, n8, c8, b9, A9, n9, c9, y0, y1, y2, h8, h9, bwc, lwc⟩ := hcut
  clear x1a x1b x1c
  have cy0_0 : wc.cell? ⟨w.heap.size, 0, none⟩ = some (.bool b8) := y0.cell 0
  have cy0_1 : wc.cell? ⟨w.heap.size, 1, none⟩ = some (.slice A8 n8 c8) := y0.cell 1
  obtain ⟨ly0_0, ly0_1, ly0_2, ly0_3⟩ := lts0 y0.lt
  have cy1_0 : wc.cell? ⟨w.heap.size + 1, 0, none⟩ = some (.bool b9) := y1.cell 0
  have cy1_1 : wc.cell? ⟨w.heap.size + 1, 1, none⟩ = some (.slice A9 n9 c9) := y1.cell 1
  obtain ⟨ly1_0, ly1_1, ly1_2, ly1_3⟩ := lts1 y1.lt
  go_wp2_with fail
  (with_reducible refine (r01_gcd _ b8 A8 n8 c8 (-z) (k) ?_ b9 A9 n9 c9 (-z') (k') ?_ ?_).mono ?_); (exact h8.iz); (exact h9.iz); (first | omega | decide | assumption); rintro e w13 ⟨b13, A13, n13, c13, rfl, h13, q13⟩
  clear cy0_0 cy0_1 ly0_0 ly0_1 ly0_2 ly0_3 cy1_0 cy1_1 ly1_0 ly1_1 ly1_2 ly1_3
  replace h8 := h8.belw q13
  replace h9 := h9.belw q13
  replace y0 := y0.b q13
  replace y1 := y1.b q13
  replace y2 := y2.b q13
  have bw13 := bwc.trans (q13.mono bwc.size)
  have lw13 := q13.size
  clear q13
  obtain ⟨cy0_0, cy0_1⟩ := y0.c2
  obtain ⟨ly0_0, ly0_1, ly0_2, ly0_3⟩ := lts0 y0.lt
  go_wp2_with fail
  (with_reducible refine (r01_div _ b8 A8 n8 c8 (-z) (k) ?_ b13 A13 n13 c13 ((Nat.gcd ((-z)).natAbs ((-z')).natAbs : Nat)) ((k) + (k')) ?_  ?_ ?_ ?_).mono ?_); (exact (h8.belw ((Below.refl _ _).alloc (Nat.le_refl _) _)).iz); (exact (h13.belw ((Below.refl _ _).alloc (Nat.le_refl _) _)).iz); (omega); (exact HG.out); (exact HM1.out); rintro e w14 ⟨b14, A14, n14, c14, b'14, A'14, n'14, c'14, rfl, h14, h'14, hb14⟩
  clear cy0_0 cy0_1 ly0_0 ly0_1 ly0_2 ly0_3
  have q14 := ((Below.refl _ _).alloc (Nat.le_refl _) _).trans (hb14.mono (by simp))
  replace h8 := h8.belw q14
  replace h9 := h9.belw q14
  replace h13 := h13.belw q14
  replace y0 := y0.b q14
  replace y1 := y1.b q14
  replace y2 := y2.b q14
  have x14a : Blk w14 w13.heap.size 82 #[.bool b13, .slice A13 n13 c13] := (blkAt _ _ _ (by simp)).below hb14 (by simp)
  have bw14 := bw13.trans (q14.mono bw13.size)
  have lw14 : w13.heap.size + 1 ≤ w14.heap.size := by have := hb14.size; simp at this; omega
  clear q14 bw13
  obtain ⟨cy1_0, cy1_1⟩ := y1.c2
  obtain ⟨ly1_0, ly1_1, ly1_2, ly1_3⟩ := lts1 y1.lt
  obtain ⟨cx14aa, cx14ab⟩ := x14a.c2
  obtain ⟨lx14aa, lx14ab, lx14ac, lx14ad⟩ := lts0 x14a.lt
  go_wp2_with fail
  (with_reducible refine (r01_div _ b9 A9 n9 c9 (-z') (k') ?_ b13 A13 n13 c13 ((Nat.gcd ((-z)).natAbs ((-z')).natAbs : Nat)) ((k) + (k')) ?_  ?_ ?_ ?_).mono ?_); (exact (h9.belw (((Below.refl _ _).alloc (Nat.le_refl _) _).alloc (by simp) _)).iz); (exact (h13.belw (((Below.refl _ _).alloc (Nat.le_refl _) _).alloc (by simp) _)).iz); (omega); (exact HG.out); (exact HM2.out); rintro e w15 ⟨b15, A15, n15, c15, b'15, A'15, n'15, c'15, rfl, h15, h'15, hb15⟩
  clear cy1_0 cy1_1 ly1_0 ly1_1 ly1_2 ly1_3 cx14aa cx14ab lx14aa lx14ab lx14ac lx14ad
  have q15 := (((Below.refl _ _).alloc (Nat.le_refl _) _).alloc (by simp) _).trans (hb15.mono (by simp <;> omega))
  replace h8 := h8.belw q15
  replace h9 := h9.belw q15
  replace h13 := h13.belw q15
  replace h14 := h14.belw q15
  replace h'14 := h'14.belw q15
  replace y0 := y0.b q15
  replace y1 := y1.b q15
  replace y2 := y2.b q15
  replace x14a := x14a.b q15
  have x15a : Blk w15 w14.heap.size 82 #[.bool b14, .slice A14 n14 c14] := ((blkAt _ _ _ (by simp)).alloc _).below hb15 (by simp <;> omega)
  have x15b := (blkAt _ _ _ (g := w14.heap.size + 1) (by simp)).below hb15 (by simp)
  have bw15 := bw14.trans (q15.mono bw14.size)
  have lw15 : w14.heap.size + 2 ≤ w15.heap.size := by have := hb15.size; simp at this; omega
  clear q15 bw14
  obtain ⟨cy2_0, cy2_1, cy2_2⟩ := y2.c3
  obtain ⟨fy2_0, fy2_1, fy2_2⟩ := y2.f3
  obtain ⟨ly2_0, ly2_1, ly2_2, ly2_3⟩ := lts2 y2.lt
  obtain ⟨cx15aa, cx15ab⟩ := x15a.c2
  obtain ⟨lx15aa, lx15ab, lx15ac, lx15ad⟩ := lts0 x15a.lt
  go_wp2_with fail
  refine bodyPost_ret (v := .agg #[.bool b14, .slice A14 n14 c14, .slice A15 n15 c15]) (by simp [results, Tryz.results61, go_sem, *] <;> first | rfl | exact ⟨rfl, rfl⟩) rfl ?_
  obtain ⟨e1, e2, e3⟩ := form_any HN.out HP.out HQ.out
  exact ⟨_, _, _, _, _, _, _, rfl, QV.mk_ (by rw [e1]; exact h14.2.1.keep ((((((Kp.refl w15).sb (w.heap.size + 1 + 1) 0 y2.box (by decide) (.bool b14)).sb (w.heap.size + 1 + 1) 1 (y2.box.set ⟨w.heap.size + 1 + 1, 0, none⟩ (.bool b14)) (by decide) (.slice A14 n14 c14)).sb (w.heap.size + 1 + 1) 2 ((y2.box.set ⟨w.heap.size + 1 + 1, 0, none⟩ (.bool b14)).set ⟨w.heap.size + 1 + 1, 1, none⟩ (.slice A14 n14 c14)) (by decide) (.slice A15 n15 c15)).alloc (.cells #[.bool b15, .slice A15 n15 c15] 82)).alloc (.cells #[.bool b'15, .slice A'15 n'15 c'15] 82))) (by rw [e2]; exact h15.2.1.keep ((((((Kp.refl w15).sb (w.heap.size + 1 + 1) 0 y2.box (by decide) (.bool b14)).sb (w.heap.size + 1 + 1) 1 (y2.box.set ⟨w.heap.size + 1 + 1, 0, none⟩ (.bool b14)) (by decide) (.slice A14 n14 c14)).sb (w.heap.size + 1 + 1) 2 ((y2.box.set ⟨w.heap.size + 1 + 1, 0, none⟩ (.bool b14)).set ⟨w.heap.size + 1 + 1, 1, none⟩ (.slice A14 n14 c14)) (by decide) (.slice A15 n15 c15)).alloc (.cells #[.bool b15, .slice A15 n15 c15] 82)).alloc (.cells #[.bool b'15, .slice A'15 n'15 c'15] 82))) (by rw [e3]; exact h14.1.symm) HS.out, (((((bw15.sc (w.heap.size + 1 + 1) 0 (by omega) (.bool b14)).sc (w.heap.size + 1 + 1) 1 (by omega) (.slice A14 n14 c14)).sc (w.heap.size + 1 + 1) 2 (by omega) (.slice A15 n15 c15)).alloc (by first | omega | (simp <;> omega)) (.cells #[.bool b15, .slice A15 n15 c15] 82)).alloc (by first | omega | (simp <;> omega)) (.cells #[.bool b'15, .slice A'15 n'15 c'15] 82))⟩
theorem g_form (w : World)  (b : Bool) (A : Option Addr) (n c : Nat) (z : Int) (k : Nat) (h : IZ w b A n c z k) (b' : Bool) (A' : Option Addr) (n' c' : Nat) (z' : Int) (k' : Nat) (h' : IZ w b' A' n' c' z' k') (q : Rat) (K : Nat) (hd : z' ≠ 0) (hq : Rat.divInt z z' = q) (hs : Sz q K) (hk : k + k' ≤ 300000000) :
    Calls Tryz.prog 61 #[.agg #[.bool b, .slice A n c], .agg #[.bool b', .slice A' n' c']] w (RetF w q K) := by
  by_cases s : z = 0
  · rw [← hq, s, Rat.zero_divInt]; exact g_form_0 w b A n c z k h b' A' n' c' z' k' h' K s hk
  · rcases sign3 z' with t | t | t
    · exact absurd t hd
    · exact g_form_p w b A n c z k h b' A' n' c' z' k' h' q K s t hq hs hk
    · exact g_form_n w b A n c z k h b' A' n' c' z' k' h' q K s t hq hs hk
end Go.Proofs.YtckjakojllcdoaaGreatDoor

/- Walks: the reference's times, Mul. -/
namespace Go.Proofs.YtckjakojllcdoaaGreatDoor
open Go Go.RowKit Bn
attribute [local go_sem ↓] Go.wp_at_zero Go.wp_at_succ
theorem r_times_c (w : World) (A : Option Addr) (n c : Nat) (l : List Nat) (wa : Wd w A n c l) (hn : n ≤ 1099511627776) (A' : Option Addr) (n' c' : Nat) (l' : List Nat) (wb : Wd w A' n' c' l') (hn' : n' ≤ 1099511627776) :
    Calls Tryz.prog 154 #[.slice A n c, .slice A' n' c'] w (RetL w (digs (val l * val l'))) := by
  have HL := Lib.hid wa.2.1
  have HL' := Lib.hid wb.2.1
  go_enter Tryz.func154, Tryz.ntmps154
  go_wp2_with (at_make; refine wpList_make_words _ rfl _ _ rfl _ _ _ _ (n + n') rfl rfl (by omega) (by omega) (by omega) ?_)
  go_loopw [18] (fun iv wr => ∃ (i : Nat) (L : List Nat), i ≤ n ∧ iv = .int .i64 (i : Nat) ∧ L.length = n + n' ∧ TimesO l l' L (n + n') n' i ∧ Blk wr w.heap.size 104 (cellsOf L) ∧ Below w.heap.size w wr) (fun iv _ => n - (intOf iv).toNat)
  case atStart =>
    refine ⟨0, List.replicate (n + n') 0, Nat.zero_le _, rfl, by simp, ⟨by intro x hx; rw [List.eq_of_mem_replicate hx]; omega, fun j _ => ?_, ?_⟩, Blk.new _ _ _, (Below.refl _ _).alloc (Nat.le_refl _) _⟩
    · unfold wd; by_cases hj : j < n + n' <;> simp [List.getD, hj]
    · rw [Sm]
      have : ∀ m, Sm (wd (List.replicate (n + n') 0)) m = 0 := by
        intro m
        induction m with
        | zero => rfl
        | succ m ih =>
          rw [Sm, ih]
          unfold wd; by_cases hj : m < n + n' <;> simp [List.getD, hj]
      rw [this]; simp
  case round =>
    obtain ⟨i, L, hi, rfl, hLM, hI, hB, hbel⟩ := hrel
    have hKp := Lib.hid ((Kp.refl w).below hbel)
    have HI := Lib.hid hI
    have HB := Lib.hid hB
    have HLM := Lib.hid hLM
    clear hI hB hLM
    by_cases hkM : i < n
    · obtain ⟨x, hx⟩ : ∃ x, wd l i = x := ⟨_, rfl⟩
      have hx1 : x < 4294967296 := by rw [← hx]; exact wa.lt i
      have HX := Lib.hid hx
      clear hx
      go_wp2_with fail
      obtain ⟨wo, hwo⟩ : ∃ wo : World, wo = wr := ⟨_, rfl⟩
      have HWO := Lib.hid hwo
      clear hwo
      go_loopw [7, 23] (fun cv kv w2 => ∃ (k cr : Nat) (L2 : List Nat), k ≤ n' ∧ kv = .int .i64 (k : Nat) ∧ cv = .int .u64 (cr : Nat) ∧ cr < 4294967296 ∧ L2.length = n + n' ∧ TimesN l l' L2 (n + n') n' i x k cr ∧ Blk w2 w.heap.size 104 (cellsOf L2) ∧ Below w.heap.size w w2) (fun _ kv _ => n' - (intOf kv).toNat)
      case atStart => exact ⟨0, 0, L, Nat.zero_le _, rfl, rfl, by omega, HLM.out, ⟨HI.out.1, HI.out.2.1, by rw [HI.out.2.2]; simp [Sm]⟩, HB.out, hbel⟩
      case round =>
        obtain ⟨k, cr, L2, hk, rfl, rfl, hcr, hLM2, hI2, hB2, hbel2⟩ := hrel
        have hKp2 := Lib.hid ((Kp.refl w).below hbel2)
        have HI2 := Lib.hid hI2
        have HB2 := Lib.hid hB2
        have HLM2 := Lib.hid hLM2
        clear hI2 hB2 hLM2
        by_cases hkk : k < n'
        · obtain ⟨g2, o2, rfl, hgl2, hc2⟩ := (wb.keep hKp2.out).at2 (by omega)
          obtain ⟨g, o, rfl, hgl, hc1⟩ := (wa.keep hKp2.out).at2 (by omega)
          have hcx := hc1 i hkM
          rw [HX.out] at hcx
          clear hc1
          have hcy := hc2 k hkk
          obtain ⟨y, z, hy, hz⟩ : ∃ y z, wd l' k = y ∧ wd L2 (i + k) = z := ⟨_, _, rfl, rfl⟩
          have hy1 : y < 4294967296 := by rw [← hy]; exact wb.lt k
          have hz1 : z < 4294967296 := by rw [← hz]; exact wd_lt HI2.out.1 _
          rw [hy] at hcy
          have hck := HB2.out.cell (i + k)
          rw [cellsOf_get (by rw [HLM2.out]; omega), hz] at hck
          have hfk := HB2.out.frozen (i + k)
          have HY := Lib.hid hy
          have HZ := Lib.hid hz
          clear hy hz hc2
          obtain ⟨p, hp⟩ : ∃ d, IntKind.u64.wrap ((x : Int) * (y : Int)) = d := ⟨_, rfl⟩
          obtain ⟨q, hq⟩ : ∃ d, IntKind.u64.wrap (p + (z : Int)) = d := ⟨_, rfl⟩
          obtain ⟨s, hs⟩ : ∃ d, IntKind.u64.wrap (q + (cr : Int)) = d := ⟨_, rfl⟩
          have HD := Lib.hid (times_word hx1 hy1 hz1 hcr hp hq (show IntKind.u64.wrap ((cr : Int) + q) = s by rw [Int.add_comm]; exact hs))
          go_wp2
          go_quiet (fail)
          go_wp2
          obtain ⟨es, hs2⟩ := HD.out
          clear hp hq hs
          go_roundw
          case rel =>
            refine ⟨k + 1, (cr + x * y + z) / 4294967296, L2.set (i + k) ((cr + x * y + z) % 4294967296), by omega, by go_num, by rw [es]; go_num, hs2, by rw [List.length_set]; exact HLM2.out, ⟨wds_set HI2.out.1 _ (Nat.mod_lt _ (by omega)), ?_, ?_⟩, ?_, (below_drewN hbel2 _).setCell (Nat.le_refl _) _⟩
            · intro j hj; rw [wd_set, if_neg (by omega)]; exact HI2.out.2.1 j hj
            · have hm := Sm_set_mid L2 (i + k) ((cr + x * y + z) % 4294967296) (n + n') (by rw [HLM2.out]; omega) (by omega)
              rw [HZ.out] at hm
              have ht := times_step (o := z) (x := x) (y := y) (Sb := Sm (wd l') k) (Pi := 4294967296 ^ i) (Pk := 4294967296 ^ k) HI2.out.2.2 (by rw [Nat.pow_add]) hm
              rw [← Nat.add_assoc, Nat.pow_succ, Sm, HY.out]
              exact ht
            · exact (HB2.out.below (below_drewN (brefl _) _) HB2.out.lt).setW (i + k) _ _ (by rw [es]; omega)
          case measure => simp [intOf]; omega
        · have hk2 : k = n' := by omega
          have HK2 := Lib.hid hk2
          have hck := HB2.out.cell (i + n')
          have hz : wd L2 (i + n') = 0 := HI2.out.2.1 _ (by omega)
          rw [cellsOf_get (by rw [HLM2.out]; omega), hz] at hck
          have hfk := HB2.out.frozen (i + n')
          have hge : n' ≤ k := by omega
          clear hk2 hkk hz
          go_wp2
          go_roundw
          case rel =>
            refine ⟨i + 1, L2.set (i + n') cr, by omega, by go_num, by rw [List.length_set]; exact HLM2.out, ⟨wds_set HI2.out.1 _ hcr, ?_, ?_⟩, ?_, hbel2.setCell (Nat.le_refl _) _⟩
            · intro j hj; rw [wd_set, if_neg (by omega)]; exact HI2.out.2.1 j (by omega)
            · have hm := Sm_set_mid L2 (i + n') cr (n + n') (by rw [HLM2.out]; omega) (by omega)
              rw [HI2.out.2.1 _ (by omega), Nat.zero_mul, Nat.add_zero] at hm
              have h2 := HI2.out.2.2
              rw [HK2.out, Sm_ge l' (by rw [← HL'.out]; exact Nat.le_refl _)] at h2
              rw [hm, h2, Sm, HX.out, Nat.add_mul]
              congr 1
              rw [Nat.mul_assoc, Nat.mul_comm (val l'), ← Nat.mul_assoc]
            · exact HB2.out.setW (i + n') _ _ rfl
          case measure => simp [intOf]; omega
    · have hkk : i = n := by omega
      subst hkk
      have hv2 : val L = val l * val l' := by
        have h1 := HI.out.2.2
        rw [Sm_ge L (by rw [HLM.out]; exact Nat.le_refl _), Sm_ge l (by rw [← HL.out]; omega)] at h1
        exact h1
      have HV2 := Lib.hid hv2
      clear hv2
      go_wp2_with fail
      refine (r_trim_c _ _ (i + n') (i + n') L ?_ ?_).mono ?_
      · exact HB.out.wdN HI.out.1 HLM.out
      · omega
      rintro e w1 ⟨A1, n1, c1, rfl, h1, hb1⟩
      go_wp2
      go_ret
      rw [HV2.out] at h1
      exact ⟨_, _, _, rfl, h1, hbel.trans (hb1.mono hbel.size)⟩
theorem r_mul_C (w : World) (b : Bool) (A : Option Addr) (n c : Nat) (l : List Nat) (wa : Wd w A n c l) (hn : n ≤ 500000000000) (b' : Bool) (A' : Option Addr) (n' c' : Nat) (l' : List Nat) (wb : Wd w A' n' c' l') (hn' : n' ≤ 500000000000) :
    Calls Tryz.prog 148 #[.agg #[.bool b, .slice A n c], .agg #[.bool b', .slice A' n' c']] w (RetW w (wh (WD.z ⟨b, l⟩ * WD.z ⟨b', l'⟩))) := by
  have HL := Lib.hid wa.2.1
  have HL' := Lib.hid wb.2.1
  go_enter Tryz.func148, Tryz.ntmps148
  go_wp2_with fail
  have b0 : Below w.heap.size w (((w.alloc (.cells #[.bool b, .slice A n c] 82)).alloc (.cells #[.bool b', .slice A' n' c'] 82)).alloc (.cells #[.bool false, .slice none 0 0] 82)) := ((((Below.refl _ _).alloc (Nat.le_refl _) _).alloc (by simp) _).alloc (by simp; omega) _)
  generalize hW0 : (((w.alloc (.cells #[.bool b, .slice A n c] 82)).alloc (.cells #[.bool b', .slice A' n' c'] 82)).alloc (.cells #[.bool false, .slice none 0 0] 82)) = W0 at b0 ⊢
  have c00 : W0.cell? ⟨w.heap.size, 0, none⟩ = some (.bool b) := by subst hW0; simp [go_sem]
  have f00 : W0.frozen? ⟨w.heap.size, 0, none⟩ = false := by subst hW0; simp [go_sem]
  have c01 : W0.cell? ⟨w.heap.size, 1, none⟩ = some (.slice A n c) := by subst hW0; simp [go_sem]
  have f01 : W0.frozen? ⟨w.heap.size, 1, none⟩ = false := by subst hW0; simp [go_sem]
  have c10 : W0.cell? ⟨w.heap.size + 1, 0, none⟩ = some (.bool b') := by subst hW0; simp [go_sem]
  have f10 : W0.frozen? ⟨w.heap.size + 1, 0, none⟩ = false := by subst hW0; simp [go_sem]
  have c11 : W0.cell? ⟨w.heap.size + 1, 1, none⟩ = some (.slice A' n' c') := by subst hW0; simp [go_sem]
  have f11 : W0.frozen? ⟨w.heap.size + 1, 1, none⟩ = false := by subst hW0; simp [go_sem]
  have c20 : W0.cell? ⟨w.heap.size + 1 + 1, 0, none⟩ = some (.bool false) := by subst hW0; simp [go_sem]
  have f20 : W0.frozen? ⟨w.heap.size + 1 + 1, 0, none⟩ = false := by subst hW0; simp [go_sem]
  have c21 : W0.cell? ⟨w.heap.size + 1 + 1, 1, none⟩ = some (.slice none 0 0) := by subst hW0; simp [go_sem]
  have f21 : W0.frozen? ⟨w.heap.size + 1 + 1, 1, none⟩ = false := by subst hW0; simp [go_sem]
  have x0 : Box W0 w.heap.size 82 := by subst hW0; exact ((boxAt _ _ _ (by simp)).alloc _).alloc _
  have x1 : Box W0 (w.heap.size + 1) 82 := by subst hW0; exact (boxAt _ _ _ (by simp)).alloc _
  have x2 : Box W0 (w.heap.size + 1 + 1) 82 := by subst hW0; exact boxAt _ _ _ (by simp)
  have hm0 : Made (w.heap.size + 1 + 1) (w.heap.size + 1 + 1 + 1) 2 W0 := by subst hW0; exact made1 (by simp)
  have hs0 : w.heap.size + 1 + 1 + 1 ≤ W0.heap.size := by subst hW0; simp
  clear hW0
  have wa := wa.belw b0
  have wb := wb.belw b0
  have r0 : Below W0.heap.size W0 W0 := brefl _
  have hRB : w.heap.size + 1 + 1 ≤ w.heap.size + 1 + 1 + 1 := by omega
  go_region_held3 (fun w' => Sees (w.heap.size + 1 + 1) W0 w') (first | exact Sees.of (Nat.le_trans hRB hs0) (by assumption) | exact Sees.of (Nat.le_trans hRB hs0) (below_drewN (by assumption) _) | exact (Sees.set (Sees.of (Nat.le_trans hRB hs0) (by assumption)) (by simp)) | exact (Sees.set (Sees.set (Sees.of (Nat.le_trans hRB hs0) (by assumption)) (by simp)) (by simp)))
    (first
      | (go_at_call 85; (with_reducible refine (r_neg_c _ b A n c l ?_ ?_).mono ?_); (exact wa); (omega); rintro e w1 ⟨rfl, hb1⟩; replace hb1 := bnext (below_drewN (brefl _) 1) hb1; have r1 := bnext r0 hb1; replace wa := wa.belw hb1; replace wb := wb.belw hb1)
      | (go_at_call 85; (with_reducible refine (r_neg_c _ b' A' n' c' l' ?_ ?_).mono ?_); (exact wb); (omega); rintro e w2 ⟨rfl, hb2⟩; have r2 := bnext r1 hb2; replace wa := wa.belw hb2; replace wb := wb.belw hb2)
      | (go_at_call 83; (with_reducible refine (r_mag_c _ b A n c l ?_ ?_).mono ?_); (exact wa); (omega); rintro e w3 ⟨A1, n1, c1, rfl, h1, hb3⟩; have r3 := bnext r2 hb3; replace wa := wa.belw hb3; replace wb := wb.belw hb3)
      | (go_at_call 83; (with_reducible refine (r_mag_c _ b' A' n' c' l' ?_ ?_).mono ?_); (exact wb); (omega); rintro e w4 ⟨A2, n2, c2, rfl, h2, hb4⟩; have r4 := bnext r3 hb4; replace wa := wa.belw hb4; replace wb := wb.belw hb4; replace h1 := h1.belw hb4)
      | (go_at_call 154; (with_reducible refine (r_times_c _ A1 n1 c1 (WD.m ⟨b, l⟩) ?_ ?_ A2 n2 c2 (WD.m ⟨b', l'⟩) ?_ ?_).mono ?_); (exact h1); (exact Nat.le_trans (h1.m_len (by rw [← HL.out]; exact hn)) (by decide)); (exact h2); (exact Nat.le_trans (h2.m_len (by rw [← HL'.out]; exact hn')) (by decide)); rintro e w5 ⟨A3, n3, c3, rfl, h3, hb5⟩; have r5 := bnext r4 hb5; replace wa := wa.belw hb5; replace wb := wb.belw hb5; replace h1 := h1.belw hb5; replace h2 := h2.belw hb5)
      | (go_at_call 91; (with_reducible refine (r_form_e _ (!(WD.s ⟨b, l⟩ == WD.s ⟨b', l'⟩)) A3 n3 c3 (digs (val (WD.m ⟨b, l⟩) * val (WD.m ⟨b', l'⟩))) (WD.z ⟨b, l⟩ * WD.z ⟨b', l'⟩) ?_ ?_ ?_).mono ?_); (exact h3); (rw [h3.2.1]; exact times_len h1 h2 (Nat.le_trans (Nat.add_le_add (h1.m_len (by rw [← HL.out]; exact hn)) (h2.m_len (by rw [← HL'.out]; exact hn'))) (by decide))); (rw [val_digs]; exact (z_mul _ _).symm); rintro e w6 ⟨A4, n4, c4, rfl, h4, hb6⟩; have r6 := bnext r5 hb6; replace wa := wa.belw hb6; replace wb := wb.belw hb6; replace h1 := h1.belw hb6; replace h2 := h2.belw hb6; replace h3 := h3.belw hb6; obtain ⟨⟨sc, sf⟩, sr, sz⟩ := Seen.of (by omega) hs0 hm0 r6))
  clear hRB
  go_wp2_with fail
  refine bodyPost_ret (v := .agg #[.bool _, .slice A4 n4 c4]) (by simp [results, Tryz.results148, go_sem, sr]; rfl) rfl ?_
  have x := x2.below r6
  refine retW ?_ ?_ ?_
  · rfl
  · exact h4.keep (kp2 x (by decide) _ _ _ _)
  · exact ((b0.trans (r6.mono b0.size)).setCell (by dsimp only; omega) _).setCell (by dsimp only; omega) _
end Go.Proofs.YtckjakojllcdoaaGreatDoor

/- The reference's Mul on integers. -/
namespace Go.Proofs.YtckjakojllcdoaaGreatDoor
open Go Go.RowKit Bn
theorem r01_mul (w : World) (b : Bool) (A : Option Addr) (n c : Nat) (z : Int) (k : Nat) (h : IZ w b A n c z k) (b' : Bool) (A' : Option Addr) (n' c' : Nat) (z' : Int) (k' : Nat) (h' : IZ w b' A' n' c' z' k') (hk : k + k' ≤ 1000000000) : Calls Tryz.prog 148 #[.agg #[.bool b, .slice A n c], .agg #[.bool b', .slice A' n' c']] w (RetI w (z * z') (k + k')) := by
  have hz := h.lt
  have hz' := h'.lt
  obtain ⟨l, h1, rfl, h3⟩ := h
  obtain ⟨l', h1', rfl, h3'⟩ := h'
  exact (r_mul_C w b A n c l h1 (by omega) b' A' n' c' l' h1' (by omega)).mono fun _ _ r => r.i (natAbs_mul_lt hz hz')
end Go.Proofs.YtckjakojllcdoaaGreatDoor

/- Walks: the reference: fractions, sums and differences. -/
namespace Go.Proofs.YtckjakojllcdoaaGreatDoor
open Go Go.RowKit Bn
attribute [local go_sem ↓] Go.wp_at_zero Go.wp_at_succ
theorem g_neg (w : World) (b : Bool) (A : Option Addr) (n c : Nat) (D : Option Addr) (m e : Nat) (q : Rat) (k : Nat) (h : QZ w b A n c D m e q k) (h0 : 0 < k) (hk : k ≤ 40000000) :
    Calls Tryz.prog 141 #[.agg #[.bool b, .slice A n c, .slice D m e]] w (RetF w (-q) k) := by
  have HS := Lib.hid (h.sz h0)
  go_enter Tryz.func141, Tryz.ntmps141
  go_wp2_with fail
  (with_reducible refine (g_parts _ b A n c D m e (q) (k) ?_ ?_ ?_).mono ?_); (exact (h.belw (((Below.refl _ _).alloc (Nat.le_refl _) _).alloc (by simp) _))); (first | omega | decide | assumption); (first | omega | decide | assumption); rintro e w1 ⟨b1, A1, n1, c1, b'1, A'1, n'1, c'1, rfl, h1, h'1, hb1⟩
  have q1 := (((Below.refl _ _).alloc (Nat.le_refl _) _).alloc (by simp) _).trans (hb1.mono (by simp <;> omega))
  replace h := h.belw q1
  have x1a : Blk w1 w.heap.size 41 #[.bool b, .slice A n c, .slice D m e] := ((blkAt _ _ _ (by simp)).alloc _).below hb1 (by simp <;> omega)
  have x1b := (blkAt _ _ _ (g := w.heap.size + 1) (by simp)).below hb1 (by simp)
  have bw1 := (brefl w).trans (q1.mono (brefl w).size)
  have lw1 : w.heap.size + 2 ≤ w1.heap.size := by have := hb1.size; simp at this; omega
  clear q1
  go_wp2_with fail
  have p2 := (((Kp.refl w1).alloc (.cells #[.bool b1, .slice A1 n1 c1] 82)).alloc (.cells #[.bool b'1, .slice A'1 n'1 c'1] 82))
  have bw2 := ((bw1.alloc (by first | omega | (simp <;> omega)) (.cells #[.bool b1, .slice A1 n1 c1] 82)).alloc (by first | omega | (simp <;> omega)) (.cells #[.bool b'1, .slice A'1 n'1 c'1] 82))
  have x2a : Blk ((w1.alloc (.cells #[.bool b1, .slice A1 n1 c1] 82)).alloc (.cells #[.bool b'1, .slice A'1 n'1 c'1] 82)) w1.heap.size 82 #[.bool b1, .slice A1 n1 c1] := ((blkAt _ _ _ (by simp)).alloc (.cells #[.bool b'1, .slice A'1 n'1 c'1] 82))
  have x2b : Blk ((w1.alloc (.cells #[.bool b1, .slice A1 n1 c1] 82)).alloc (.cells #[.bool b'1, .slice A'1 n'1 c'1] 82)) (w1.heap.size + 1) 82 #[.bool b'1, .slice A'1 n'1 c'1] := (blkAt _ _ _ (by simp))
  replace x1a := ((x1a.alloc (.cells #[.bool b1, .slice A1 n1 c1] 82)).alloc (.cells #[.bool b'1, .slice A'1 n'1 c'1] 82))
  replace x1b := ((x1b.alloc (.cells #[.bool b1, .slice A1 n1 c1] 82)).alloc (.cells #[.bool b'1, .slice A'1 n'1 c'1] 82))
  have lw2 : w1.heap.size + 2 ≤ ((w1.alloc (.cells #[.bool b1, .slice A1 n1 c1] 82)).alloc (.cells #[.bool b'1, .slice A'1 n'1 c'1] 82)).heap.size := by simp
  generalize hE2 : ((w1.alloc (.cells #[.bool b1, .slice A1 n1 c1] 82)).alloc (.cells #[.bool b'1, .slice A'1 n'1 c'1] 82)) = w2 at p2 bw2 lw2 x2a x2b x1a x1b ⊢
  clear hE2
  replace h := h.keep p2
  replace h1 := h1.keep p2
  replace h'1 := h'1.keep p2
  clear bw1
  obtain ⟨lx1aa, lx1ab, lx1ac, lx1ad⟩ := lts0 x1a.lt
  have cx1ba : w2.cell? ⟨w.heap.size + 1, 0, none⟩ = some (.bool false) := x1b.cell 0
  have fx1ba : w2.frozen? ⟨w.heap.size + 1, 0, none⟩ = false := x1b.frozen 0
  have cx1bb : w2.cell? ⟨w.heap.size + 1, 1, none⟩ = some (.slice none 0 0) := x1b.cell 1
  have fx1bb : w2.frozen? ⟨w.heap.size + 1, 1, none⟩ = false := x1b.frozen 1
  have cx1bc : w2.cell? ⟨w.heap.size + 1, 2, none⟩ = some (.slice none 0 0) := x1b.cell 2
  have fx1bc : w2.frozen? ⟨w.heap.size + 1, 2, none⟩ = false := x1b.frozen 2
  obtain ⟨lx1ba, lx1bb, lx1bc, lx1bd⟩ := lts1 x1b.lt
  obtain ⟨cx2aa, cx2ab⟩ := x2a.c2
  obtain ⟨lx2aa, lx2ab, lx2ac, lx2ad⟩ := lts0 x2a.lt
  obtain ⟨cx2ba, cx2bb⟩ := x2b.c2
  obtain ⟨lx2ba, lx2bb, lx2bc, lx2bd⟩ := lts1 x2b.lt
  have nfx1_0_0 : ¬ w.heap.size = w.heap.size + 1 := by omega
  have nex1_0_0 : ¬ w.heap.size = w.heap.size + 1 := by omega
  have nfx2_0_0 : ¬ w1.heap.size = w.heap.size + 1 := by omega
  have nex2_0_0 : ¬ w1.heap.size = w.heap.size + 1 := by omega
  have nfx2_1_0 : ¬ w1.heap.size + 1 = w.heap.size + 1 := by omega
  have nex2_1_0 : ¬ w1.heap.size = w.heap.size := by omega
  go_region_held3 (fun w' => SeesX w2.heap.size (w.heap.size + 1) w2 w') (first | with_reducible exact SeesX.of (Nat.le_refl _) (by assumption) | with_reducible exact SeesX.of (Nat.le_refl _) (brefl _).drew | with_reducible exact (SeesX.set (SeesX.set (SeesX.set (SeesX.of (Nat.le_refl _) (by assumption))))) | with_reducible exact (SeesX.set (SeesX.set (SeesX.of (Nat.le_refl _) (by assumption)))) | with_reducible exact (SeesX.set (SeesX.of (Nat.le_refl _) (by assumption))) | exact SeesX.of (Nat.le_refl _) (below_drewN (brefl _) 1) | exact SeesX.of (Nat.le_refl _) (below_drewN (by assumption) _))
    (first
      | (go_at_call 92; (with_reducible refine (r01_neg _ b1 A1 n1 c1 ((q).num) ((k)) ?_ ?_).mono ?_); (exact h1.iz); (first | omega | decide | assumption); rintro e w3 ⟨b3, A3, n3, c3, rfl, h3, hb3⟩; replace hb3 := bnext (below_drewN (brefl _) 1) hb3; have q3 : Below w2.heap.size w2 w3 := bnext (brefl w2) hb3; replace h := h.belw hb3; replace h1 := h1.belw hb3; replace h'1 := h'1.belw hb3)
      | (go_at_call 61; (with_reducible refine (g_form _ b3 A3 n3 c3 (-((q).num)) (((k))) ?_ b'1 A'1 n'1 c'1 (((q).den : Int)) ((k)) ?_ (-q) (k) ?_ ?_ ?_ ?_).mono ?_); (exact h3.iz); (exact h'1.iz); (exact den_ne _); (exact (neg_q q).symm); (exact Sz_neg HS.out); (omega); rintro e w4 ⟨b4, A4, n4, c4, A'4, n'4, c'4, rfl, h4, hb4⟩; have q4 : Below w2.heap.size w2 w4 := bnext q3 hb4; replace h := h.belw hb4; replace h1 := h1.belw hb4; replace h'1 := h'1.belw hb4; replace h3 := h3.belw hb4; have x1b := x1b.b q4; obtain ⟨cx1ba, cx1bb, cx1bc⟩ := x1b.c3; obtain ⟨fx1ba, fx1bb, fx1bc⟩ := x1b.f3))
  have bw4 := bw2.trans (q4.mono bw2.size)
  clear lx1aa lx1ab lx1ac lx1ad cx1ba fx1ba cx1bb fx1bb cx1bc fx1bc lx1ba lx1bb lx1bc lx1bd cx2aa cx2ab lx2aa lx2ab lx2ac lx2ad cx2ba cx2bb lx2ba lx2bb lx2bc lx2bd
  replace x1a := x1a.b q4
  replace x2a := x2a.b q4
  replace x2b := x2b.b q4
  have lw4 := q4.size
  obtain ⟨cx1ba, cx1bb, cx1bc⟩ := x1b.c3
  obtain ⟨fx1ba, fx1bb, fx1bc⟩ := x1b.f3
  go_wp2_with fail
  refine bodyPost_ret (v := .agg #[.bool b4, .slice A4 n4 c4, .slice A'4 n'4 c'4]) (by simp [results, Tryz.results141, go_sem, *] <;> first | rfl | exact ⟨rfl, rfl⟩) rfl ?_
  exact ⟨b4, A4, n4, c4, A'4, n'4, c'4, rfl, h4.keep ((((Kp.refl w4).sb (w.heap.size + 1) 0 x1b.box (by decide) (.bool b4)).sb (w.heap.size + 1) 1 (x1b.box.set ⟨w.heap.size + 1, 0, none⟩ (.bool b4)) (by decide) (.slice A4 n4 c4)).sb (w.heap.size + 1) 2 ((x1b.box.set ⟨w.heap.size + 1, 0, none⟩ (.bool b4)).set ⟨w.heap.size + 1, 1, none⟩ (.slice A4 n4 c4)) (by decide) (.slice A'4 n'4 c'4)), (((bw4.sc (w.heap.size + 1) 0 (by omega) (.bool b4)).sc (w.heap.size + 1) 1 (by omega) (.slice A4 n4 c4)).sc (w.heap.size + 1) 2 (by omega) (.slice A'4 n'4 c'4))⟩
theorem g_add (w : World) (b : Bool) (A : Option Addr) (n c : Nat) (D : Option Addr) (m e : Nat) (q : Rat) (k : Nat) (h : QZ w b A n c D m e q k) (b' : Bool) (A' : Option Addr) (n' c' : Nat) (D' : Option Addr) (m' e' : Nat) (q' : Rat) (k' : Nat) (h' : QZ w b' A' n' c' D' m' e' q' k') (h0 : 0 < k) (hk : k ≤ 40000000) (h0' : 0 < k') (hk' : k' ≤ 40000000) :
    Calls Tryz.prog 140 #[.agg #[.bool b, .slice A n c, .slice D m e], .agg #[.bool b', .slice A' n' c', .slice D' m' e']] w (RetF w (q + q') (k + k' + 1)) := by
  have HS := Lib.hid (h.sz h0)
  have HS' := Lib.hid (h'.sz h0')
  go_enter Tryz.func140, Tryz.ntmps140
  go_wp2_with fail
  (with_reducible refine (g_parts _ b A n c D m e (q) (k) ?_ ?_ ?_).mono ?_); (exact (h.belw ((((Below.refl _ _).alloc (Nat.le_refl _) _).alloc (by simp) _).alloc (by simp <;> omega) _))); (first | omega | decide | assumption); (first | omega | decide | assumption); rintro e w1 ⟨b1, A1, n1, c1, b'1, A'1, n'1, c'1, rfl, h1, h'1, hb1⟩
  have q1 := ((((Below.refl _ _).alloc (Nat.le_refl _) _).alloc (by simp) _).alloc (by simp <;> omega) _).trans (hb1.mono (by simp <;> omega))
  replace h := h.belw q1
  replace h' := h'.belw q1
  have x1a : Blk w1 w.heap.size 41 #[.bool b, .slice A n c, .slice D m e] := (((blkAt _ _ _ (by simp)).alloc _).alloc _).below hb1 (by simp <;> omega)
  have x1b := ((blkAt _ _ _ (g := w.heap.size + 1) (by simp)).alloc _).below hb1 (by simp <;> omega)
  have x1c := (blkAt _ _ _ (g := w.heap.size + 1 + 1) (by simp)).below hb1 (by simp)
  have bw1 := (brefl w).trans (q1.mono (brefl w).size)
  have lw1 : w.heap.size + 3 ≤ w1.heap.size := by have := hb1.size; simp at this; omega
  clear q1
  obtain ⟨cx1ba, cx1bb, cx1bc⟩ := x1b.c3
  obtain ⟨lx1ba, lx1bb, lx1bc, lx1bd⟩ := lts1 x1b.lt
  go_wp2_with fail
  (with_reducible refine (g_parts _ b' A' n' c' D' m' e' (q') (k') ?_ ?_ ?_).mono ?_); (exact (h'.belw (((Below.refl _ _).alloc (Nat.le_refl _) _).alloc (by simp) _))); (first | omega | decide | assumption); (first | omega | decide | assumption); rintro e w2 ⟨b2, A2, n2, c2, b'2, A'2, n'2, c'2, rfl, h2, h'2, hb2⟩
  clear cx1ba cx1bb cx1bc lx1ba lx1bb lx1bc lx1bd
  have q2 := (((Below.refl _ _).alloc (Nat.le_refl _) _).alloc (by simp) _).trans (hb2.mono (by simp <;> omega))
  replace h := h.belw q2
  replace h' := h'.belw q2
  replace h1 := h1.belw q2
  replace h'1 := h'1.belw q2
  replace x1a := x1a.b q2
  replace x1b := x1b.b q2
  replace x1c := x1c.b q2
  have x2a : Blk w2 w1.heap.size 82 #[.bool b1, .slice A1 n1 c1] := ((blkAt _ _ _ (by simp)).alloc _).below hb2 (by simp <;> omega)
  have x2b := (blkAt _ _ _ (g := w1.heap.size + 1) (by simp)).below hb2 (by simp)
  have bw2 := bw1.trans (q2.mono bw1.size)
  have lw2 : w1.heap.size + 2 ≤ w2.heap.size := by have := hb2.size; simp at this; omega
  clear q2 bw1
  go_wp2_with fail
  have p3 := (((Kp.refl w2).alloc (.cells #[.bool b2, .slice A2 n2 c2] 82)).alloc (.cells #[.bool b'2, .slice A'2 n'2 c'2] 82))
  have bw3 := ((bw2.alloc (by first | omega | (simp <;> omega)) (.cells #[.bool b2, .slice A2 n2 c2] 82)).alloc (by first | omega | (simp <;> omega)) (.cells #[.bool b'2, .slice A'2 n'2 c'2] 82))
  have x3a : Blk ((w2.alloc (.cells #[.bool b2, .slice A2 n2 c2] 82)).alloc (.cells #[.bool b'2, .slice A'2 n'2 c'2] 82)) w2.heap.size 82 #[.bool b2, .slice A2 n2 c2] := ((blkAt _ _ _ (by simp)).alloc (.cells #[.bool b'2, .slice A'2 n'2 c'2] 82))
  have x3b : Blk ((w2.alloc (.cells #[.bool b2, .slice A2 n2 c2] 82)).alloc (.cells #[.bool b'2, .slice A'2 n'2 c'2] 82)) (w2.heap.size + 1) 82 #[.bool b'2, .slice A'2 n'2 c'2] := (blkAt _ _ _ (by simp))
  replace x1a := ((x1a.alloc (.cells #[.bool b2, .slice A2 n2 c2] 82)).alloc (.cells #[.bool b'2, .slice A'2 n'2 c'2] 82))
  replace x1b := ((x1b.alloc (.cells #[.bool b2, .slice A2 n2 c2] 82)).alloc (.cells #[.bool b'2, .slice A'2 n'2 c'2] 82))
  replace x1c := ((x1c.alloc (.cells #[.bool b2, .slice A2 n2 c2] 82)).alloc (.cells #[.bool b'2, .slice A'2 n'2 c'2] 82))
  replace x2a := ((x2a.alloc (.cells #[.bool b2, .slice A2 n2 c2] 82)).alloc (.cells #[.bool b'2, .slice A'2 n'2 c'2] 82))
  replace x2b := ((x2b.alloc (.cells #[.bool b2, .slice A2 n2 c2] 82)).alloc (.cells #[.bool b'2, .slice A'2 n'2 c'2] 82))
  have lw3 : w2.heap.size + 2 ≤ ((w2.alloc (.cells #[.bool b2, .slice A2 n2 c2] 82)).alloc (.cells #[.bool b'2, .slice A'2 n'2 c'2] 82)).heap.size := by simp
  generalize hE3 : ((w2.alloc (.cells #[.bool b2, .slice A2 n2 c2] 82)).alloc (.cells #[.bool b'2, .slice A'2 n'2 c'2] 82)) = w3 at p3 bw3 lw3 x3a x3b x1a x1b x1c x2a x2b ⊢
  clear hE3
  replace h := h.keep p3
  replace h' := h'.keep p3
  replace h1 := h1.keep p3
  replace h'1 := h'1.keep p3
  replace h2 := h2.keep p3
  replace h'2 := h'2.keep p3
  clear bw2
  obtain ⟨cx2aa, cx2ab⟩ := x2a.c2
  obtain ⟨lx2aa, lx2ab, lx2ac, lx2ad⟩ := lts0 x2a.lt
  obtain ⟨cx2ba, cx2bb⟩ := x2b.c2
  obtain ⟨lx2ba, lx2bb, lx2bc, lx2bd⟩ := lts1 x2b.lt
  obtain ⟨cx3aa, cx3ab⟩ := x3a.c2
  obtain ⟨lx3aa, lx3ab, lx3ac, lx3ad⟩ := lts0 x3a.lt
  obtain ⟨cx3ba, cx3bb⟩ := x3b.c2
  obtain ⟨lx3ba, lx3bb, lx3bc, lx3bd⟩ := lts1 x3b.lt
  refine wp_region_lin (B := w.heap.size) (fr := fun xf => ⟨List.toArray (.agg #[.bool b, .slice A n c, .slice D m e] :: .agg #[.bool b', .slice A' n' c', .slice D' m' e'] :: .pointer (some ⟨w.heap.size, 0, none⟩) :: .pointer (some ⟨w.heap.size + 1, 0, none⟩) :: .pointer (some ⟨w.heap.size + 1 + 1, 0, none⟩) :: .pointer (some ⟨w1.heap.size, 0, none⟩) :: .pointer (some ⟨w1.heap.size + 1, 0, none⟩) :: .pointer (some ⟨w2.heap.size, 0, none⟩) :: .pointer (some ⟨w2.heap.size + 1, 0, none⟩) :: .tuple #[.agg #[.bool b1, .slice A1 n1 c1], .agg #[.bool b'1, .slice A'1 n'1 c'1]] :: .agg #[.bool b, .slice A n c, .slice D m e] :: .tuple #[.agg #[.bool b1, .slice A1 n1 c1], .agg #[.bool b'1, .slice A'1 n'1 c'1]] :: .agg #[.bool b1, .slice A1 n1 c1] :: .agg #[.bool b'1, .slice A'1 n'1 c'1] :: .tuple #[.agg #[.bool b2, .slice A2 n2 c2], .agg #[.bool b'2, .slice A'2 n'2 c'2]] :: .agg #[.bool b', .slice A' n' c', .slice D' m' e'] :: .tuple #[.agg #[.bool b2, .slice A2 n2 c2], .agg #[.bool b'2, .slice A'2 n'2 c'2]] :: .agg #[.bool b2, .slice A2 n2 c2] :: .agg #[.bool b'2, .slice A'2 n'2 c'2] :: xf 0 :: xf 1 :: xf 2 :: xf 3 :: xf 4 :: xf 5 :: xf 6 :: xf 7 :: xf 8 :: xf 9 :: xf 10 :: []), []⟩) (R := fun i => List.getD ((PEq (.agg #[.bool b1, .slice A1 n1 c1])) :: (PEq (.agg #[.bool b'2, .slice A'2 n'2 c'2])) :: (VI (((q).num) * (((q').den : Int))) (((k)) + ((k')))) :: (PEq (.agg #[.bool b2, .slice A2 n2 c2])) :: (PEq (.agg #[.bool b'1, .slice A'1 n'1 c'1])) :: (VI (((q').num) * (((q).den : Int))) (((k')) + ((k)))) :: (VI ((((q).num) * (((q').den : Int))) + (((q').num) * (((q).den : Int)))) ((((k)) + ((k'))) + (((k')) + ((k))) + 1)) :: (PEq (.agg #[.bool b'1, .slice A'1 n'1 c'1])) :: (PEq (.agg #[.bool b'2, .slice A'2 n'2 c'2])) :: (VI ((((q).den : Int)) * (((q').den : Int))) (((k)) + ((k')))) :: (VQ (q + q') (k + k' + 1)) :: PAny :: []) i (fun _ _ => True)) (es := []) (ow := [⟨w.heap.size, 12, 0, 41, #[.bool b, .slice A n c, .slice D m e], CAny⟩, ⟨w.heap.size + 1, 12, 0, 41, #[.bool b', .slice A' n' c', .slice D' m' e'], CAny⟩, ⟨w.heap.size + 1 + 1, 11, 0, 41, #[.bool false, .slice none 0 0, .slice none 0 0], CQ (q + q') (k + k' + 1)⟩, ⟨w1.heap.size, 12, 0, 82, #[.bool b1, .slice A1 n1 c1], CAny⟩, ⟨w1.heap.size + 1, 12, 0, 82, #[.bool b'1, .slice A'1 n'1 c'1], CAny⟩, ⟨w2.heap.size, 12, 0, 82, #[.bool b2, .slice A2 n2 c2], CAny⟩, ⟨w2.heap.size + 1, 12, 0, 82, #[.bool b'2, .slice A'2 n'2 c'2], CAny⟩]) (x0 := (fun _ => undef)) (by kernel_rfl)
    (each_of ⟨fun _ _ => rfl, fun _ _ => rfl, fun _ _ => rfl, fun _ _ => rfl, fun _ _ => rfl, fun _ _ => rfl, fun _ _ => rfl, fun _ _ => rfl, fun _ _ => rfl, fun _ _ => rfl, fun _ _ => rfl, fun _ _ => rfl, trivial⟩) (each_of (acyc_from _ 0 (by kernel_rfl))) (AllStab.get _ ⟨stEq _, stEq _, stI _ _, stEq _, stEq _, stI _ _, stI _ _, stEq _, stEq _, stI _ _, stQ _ _, stAny, trivial⟩)
    (fun _ h => nomatch h) (List.forall_mem_cons.2 ⟨scAny, List.forall_mem_cons.2 ⟨scAny, List.forall_mem_cons.2 ⟨scQ _ _, List.forall_mem_cons.2 ⟨scAny, List.forall_mem_cons.2 ⟨scAny, List.forall_mem_cons.2 ⟨scAny, List.forall_mem_cons.2 ⟨scAny, fun _ h => nomatch h⟩⟩⟩⟩⟩⟩⟩) (fun _ h => nomatch h) bw3.size
    (List.forall_mem_cons.2 ⟨⟨x1a, by show w.heap.size ≤ w.heap.size; omega⟩, List.forall_mem_cons.2 ⟨⟨x1b, by show w.heap.size ≤ w.heap.size + 1; omega⟩, List.forall_mem_cons.2 ⟨⟨x1c, by show w.heap.size ≤ w.heap.size + 1 + 1; omega⟩, List.forall_mem_cons.2 ⟨⟨x2a, by show w.heap.size ≤ w1.heap.size; omega⟩, List.forall_mem_cons.2 ⟨⟨x2b, by show w.heap.size ≤ w1.heap.size + 1; omega⟩, List.forall_mem_cons.2 ⟨⟨x3a, by show w.heap.size ≤ w2.heap.size; omega⟩, List.forall_mem_cons.2 ⟨⟨x3b, by show w.heap.size ≤ w2.heap.size + 1; omega⟩, fun _ h => nomatch h⟩⟩⟩⟩⟩⟩⟩) (ownDist (by simp <;> omega))
    (each_of ⟨?_, ?_, ?_, ?_, ?_, ?_, ?_, ?_, ?_, ?_, ?_, ?_, trivial⟩) ?_
  · exact .inl ⟨by simp, by simp, fun xf wq hk hbl hd K hK => by
      have y : Blk wq w1.heap.size 82 #[.bool b1, .slice A1 n1 c1] := hbl _ (List.Mem.tail _ (List.Mem.tail _ (List.Mem.tail _ (List.Mem.head _)))) (by simp [Region.binds])
      obtain ⟨hcl0, hcl1⟩ := y.c2
      (try dsimp only)
      go_simp
      exact hK.out (.agg #[.bool b1, .slice A1 n1 c1]) _ rfl (brefl _)⟩
  · exact .inl ⟨by simp, by simp, fun xf wq hk hbl hd K hK => by
      have y : Blk wq (w2.heap.size + 1) 82 #[.bool b'2, .slice A'2 n'2 c'2] := hbl _ (List.Mem.tail _ (List.Mem.tail _ (List.Mem.tail _ (List.Mem.tail _ (List.Mem.tail _ (List.Mem.tail _ (List.Mem.head _))))))) (by simp [Region.binds])
      obtain ⟨hcl0, hcl1⟩ := y.c2
      (try dsimp only)
      go_simp
      exact hK.out (.agg #[.bool b'2, .slice A'2 n'2 c'2]) _ rfl (brefl _)⟩
  · exact .inl ⟨by simp, by simp, fun xf wq hk hbl hd K hK => by
      have d0 : xf 0 = .agg #[.bool b1, .slice A1 n1 c1] := hd ⟨0, .data⟩ (by simp) rfl
      have d1 : xf 1 = .agg #[.bool b'2, .slice A'2 n'2 c'2] := hd ⟨1, .data⟩ (by simp) rfl
      (try dsimp only); (try simp only [d0, d1])
      go_simp
      go_at_call 148
      (with_reducible refine (r01_mul _ b1 A1 n1 c1 ((q).num) ((k)) ?_ b'2 A'2 n'2 c'2 (((q').den : Int)) ((k')) ?_ ?_).mono ?_); (exact (h1.keep hk).iz); (exact (h'2.keep hk).iz); (first | omega | decide | assumption); rintro e wr ⟨b5, A5, n5, c5, rfl, h5, hbr⟩
      have hz := hK.out _ _ ⟨b5, A5, n5, c5, rfl, h5⟩ hbr
      simp only [d0, d1] at hz
      exact hz⟩
  · exact .inl ⟨by simp, by simp, fun xf wq hk hbl hd K hK => by
      have y : Blk wq w2.heap.size 82 #[.bool b2, .slice A2 n2 c2] := hbl _ (List.Mem.tail _ (List.Mem.tail _ (List.Mem.tail _ (List.Mem.tail _ (List.Mem.tail _ (List.Mem.head _)))))) (by simp [Region.binds])
      obtain ⟨hcl0, hcl1⟩ := y.c2
      (try dsimp only)
      go_simp
      exact hK.out (.agg #[.bool b2, .slice A2 n2 c2]) _ rfl (brefl _)⟩
  · exact .inl ⟨by simp, by simp, fun xf wq hk hbl hd K hK => by
      have y : Blk wq (w1.heap.size + 1) 82 #[.bool b'1, .slice A'1 n'1 c'1] := hbl _ (List.Mem.tail _ (List.Mem.tail _ (List.Mem.tail _ (List.Mem.tail _ (List.Mem.head _))))) (by simp [Region.binds])
      obtain ⟨hcl0, hcl1⟩ := y.c2
      (try dsimp only)
      go_simp
      exact hK.out (.agg #[.bool b'1, .slice A'1 n'1 c'1]) _ rfl (brefl _)⟩
  · exact .inl ⟨by simp, by simp, fun xf wq hk hbl hd K hK => by
      have d3 : xf 3 = .agg #[.bool b2, .slice A2 n2 c2] := hd ⟨3, .data⟩ (by simp) rfl
      have d4 : xf 4 = .agg #[.bool b'1, .slice A'1 n'1 c'1] := hd ⟨4, .data⟩ (by simp) rfl
      (try dsimp only); (try simp only [d3, d4])
      go_simp
      go_at_call 148
      (with_reducible refine (r01_mul _ b2 A2 n2 c2 ((q').num) ((k')) ?_ b'1 A'1 n'1 c'1 (((q).den : Int)) ((k)) ?_ ?_).mono ?_); (exact (h2.keep hk).iz); (exact (h'1.keep hk).iz); (first | omega | decide | assumption); rintro e wr ⟨b6, A6, n6, c6, rfl, h6, hbr⟩
      have hz := hK.out _ _ ⟨b6, A6, n6, c6, rfl, h6⟩ hbr
      simp only [d3, d4] at hz
      exact hz⟩
  · exact .inl ⟨by simp, by simp, fun xf wq hk hbl hd K hK => by
      obtain ⟨b5, A5, n5, c5, d2, h5⟩ : VI (((q).num) * (((q').den : Int))) (((k)) + ((k'))) (xf 2) wq := hd ⟨2, .data⟩ (by simp) rfl
      obtain ⟨b6, A6, n6, c6, d5, h6⟩ : VI (((q').num) * (((q).den : Int))) (((k')) + ((k))) (xf 5) wq := hd ⟨5, .data⟩ (by simp) rfl
      (try dsimp only); (try simp only [d2, d5])
      go_simp
      go_at_call 111
      (with_reducible refine (r01_add _ b5 A5 n5 c5 (((q).num) * (((q').den : Int))) (((k)) + ((k'))) ?_ b6 A6 n6 c6 (((q').num) * (((q).den : Int))) (((k')) + ((k))) ?_ ?_).mono ?_); (exact h5.iz); (exact h6.iz); (first | omega | decide | assumption); rintro e wr ⟨b7, A7, n7, c7, rfl, h7, hbr⟩
      have hz := hK.out _ _ ⟨b7, A7, n7, c7, rfl, h7⟩ hbr
      simp only [d2, d5] at hz
      exact hz⟩
  · exact .inl ⟨by simp, by simp, fun xf wq hk hbl hd K hK => by
      have y : Blk wq (w1.heap.size + 1) 82 #[.bool b'1, .slice A'1 n'1 c'1] := hbl _ (List.Mem.tail _ (List.Mem.tail _ (List.Mem.tail _ (List.Mem.tail _ (List.Mem.head _))))) (by simp [Region.binds])
      obtain ⟨hcl0, hcl1⟩ := y.c2
      (try dsimp only)
      go_simp
      exact hK.out (.agg #[.bool b'1, .slice A'1 n'1 c'1]) _ rfl (brefl _)⟩
  · exact .inl ⟨by simp, by simp, fun xf wq hk hbl hd K hK => by
      have y : Blk wq (w2.heap.size + 1) 82 #[.bool b'2, .slice A'2 n'2 c'2] := hbl _ (List.Mem.tail _ (List.Mem.tail _ (List.Mem.tail _ (List.Mem.tail _ (List.Mem.tail _ (List.Mem.tail _ (List.Mem.head _))))))) (by simp [Region.binds])
      obtain ⟨hcl0, hcl1⟩ := y.c2
      (try dsimp only)
      go_simp
      exact hK.out (.agg #[.bool b'2, .slice A'2 n'2 c'2]) _ rfl (brefl _)⟩
  · exact .inl ⟨by simp, by simp, fun xf wq hk hbl hd K hK => by
      have d7 : xf 7 = .agg #[.bool b'1, .slice A'1 n'1 c'1] := hd ⟨7, .data⟩ (by simp) rfl
      have d8 : xf 8 = .agg #[.bool b'2, .slice A'2 n'2 c'2] := hd ⟨8, .data⟩ (by simp) rfl
      (try dsimp only); (try simp only [d7, d8])
      go_simp
      go_at_call 148
      (with_reducible refine (r01_mul _ b'1 A'1 n'1 c'1 (((q).den : Int)) ((k)) ?_ b'2 A'2 n'2 c'2 (((q').den : Int)) ((k')) ?_ ?_).mono ?_); (exact (h'1.keep hk).iz); (exact (h'2.keep hk).iz); (first | omega | decide | assumption); rintro e wr ⟨b8, A8, n8, c8, rfl, h8, hbr⟩
      have hz := hK.out _ _ ⟨b8, A8, n8, c8, rfl, h8⟩ hbr
      simp only [d7, d8] at hz
      exact hz⟩
  · exact .inl ⟨by simp, by simp, fun xf wq hk hbl hd K hK => by
      obtain ⟨b7, A7, n7, c7, d6, h7⟩ : VI ((((q).num) * (((q').den : Int))) + (((q').num) * (((q).den : Int)))) ((((k)) + ((k'))) + (((k')) + ((k))) + 1) (xf 6) wq := hd ⟨6, .data⟩ (by simp) rfl
      obtain ⟨b8, A8, n8, c8, d9, h8⟩ : VI ((((q).den : Int)) * (((q').den : Int))) (((k)) + ((k'))) (xf 9) wq := hd ⟨9, .data⟩ (by simp) rfl
      (try dsimp only); (try simp only [d6, d9])
      go_simp
      go_at_call 61
      (with_reducible refine (g_form _ b7 A7 n7 c7 ((((q).num) * (((q').den : Int))) + (((q').num) * (((q).den : Int)))) ((((k)) + ((k'))) + (((k')) + ((k))) + 1) ?_ b8 A8 n8 c8 ((((q).den : Int)) * (((q').den : Int))) (((k)) + ((k'))) ?_ (q + q') (k + k' + 1) ?_ ?_ ?_ ?_).mono ?_); (exact h7.iz); (exact h8.iz); (exact Int.mul_ne_zero (den_ne _) (den_ne _)); (exact (add_q _ _).symm); (exact Sz_add HS.out HS'.out); (omega); rintro e wr ⟨b9, A9, n9, c9, A'9, n'9, c'9, rfl, h9, hbr⟩
      have hz := hK.out _ _ ⟨b9, A9, n9, c9, A'9, n'9, c'9, rfl, h9⟩ hbr
      simp only [d6, d9] at hz
      exact hz⟩
  · exact .inr (.inr (.inr ⟨⟨w.heap.size + 1 + 1, 11, 0, 41, #[.bool false, .slice none 0 0, .slice none 0 0], CQ (q + q') (k + k' + 1)⟩, by simp, rfl, by simp, by simp, (show KT 41 = false by decide), fun _ _ => True.intro, fun xf wq hblk hd => by
      obtain ⟨b9, A9, n9, c9, A'9, n'9, c'9, d10, h9⟩ : VQ (q + q') (k + k' + 1) (xf 10) wq := hd ⟨10, .data⟩ (by simp) rfl
      dsimp only at hblk
      refine ⟨[.bool b9, .slice A9 n9 c9, .slice A'9 n'9 c'9], fun w' hk => ⟨b9, A9, n9, c9, A'9, n'9, c'9, rfl, h9.keep hk⟩, fun K hK => ?_⟩
      have hc0 : wq.cell? ⟨w.heap.size + 1 + 1, 0, none⟩ = some (.bool false) := hblk.cell 0
      have hc1 : wq.cell? ⟨w.heap.size + 1 + 1, 1, none⟩ = some (.slice none 0 0) := hblk.cell 1
      have hc2 : wq.cell? ⟨w.heap.size + 1 + 1, 2, none⟩ = some (.slice none 0 0) := hblk.cell 2
      have hf0 : wq.frozen? ⟨w.heap.size + 1 + 1, 0, none⟩ = false := hblk.frozen 0
      have hf1 : wq.frozen? ⟨w.heap.size + 1 + 1, 1, none⟩ = false := hblk.frozen 1
      have hf2 : wq.frozen? ⟨w.heap.size + 1 + 1, 2, none⟩ = false := hblk.frozen 2
      (try dsimp only)
      simp only [d10]
      go_simp
      have hz := hK.out undef
      simp only [d10] at hz
      exact hz⟩))
  clear cx2aa cx2ab lx2aa lx2ab lx2ac lx2ad cx2ba cx2bb lx2ba lx2bb lx2bc lx2bd cx3aa cx3ab lx3aa lx3ab lx3ac lx3ad cx3ba cx3bb lx3ba lx3bb lx3bc lx3bd
  intro y4 w4 kq4 hbl4 lw4 how hrr hfl hds
  replace h := h.keep kq4
  replace h' := h'.keep kq4
  replace h1 := h1.keep kq4
  replace h'1 := h'1.keep kq4
  replace h2 := h2.keep kq4
  replace h'2 := h'2.keep kq4
  obtain ⟨_, z4_0, ez, _⟩ := how _ (List.Mem.head _)
  obtain rfl := ez (by simp)
  dsimp only at z4_0
  obtain ⟨_, z4_1, ez, _⟩ := how _ (List.Mem.tail _ (List.Mem.head _))
  obtain rfl := ez (by simp)
  dsimp only at z4_1
  obtain ⟨_, z4_2, _, ez⟩ := how _ (List.Mem.tail _ (List.Mem.tail _ (List.Mem.head _)))
  obtain ⟨b9, A9, n9, c9, A'9, n'9, c'9, rfl, h9⟩ := ez (by simp)
  dsimp only at z4_2
  obtain ⟨_, z4_3, ez, _⟩ := how _ (List.Mem.tail _ (List.Mem.tail _ (List.Mem.tail _ (List.Mem.head _))))
  obtain rfl := ez (by simp)
  dsimp only at z4_3
  obtain ⟨_, z4_4, ez, _⟩ := how _ (List.Mem.tail _ (List.Mem.tail _ (List.Mem.tail _ (List.Mem.tail _ (List.Mem.head _)))))
  obtain rfl := ez (by simp)
  dsimp only at z4_4
  obtain ⟨_, z4_5, ez, _⟩ := how _ (List.Mem.tail _ (List.Mem.tail _ (List.Mem.tail _ (List.Mem.tail _ (List.Mem.tail _ (List.Mem.head _))))))
  obtain rfl := ez (by simp)
  dsimp only at z4_5
  obtain ⟨_, z4_6, ez, _⟩ := how _ (List.Mem.tail _ (List.Mem.tail _ (List.Mem.tail _ (List.Mem.tail _ (List.Mem.tail _ (List.Mem.tail _ (List.Mem.head _)))))))
  obtain rfl := ez (by simp)
  dsimp only at z4_6
  (try dsimp only)
  clear hrr hfl how hds 
  clear x1a x1b x1c x2a x2b x3a x3b
  have bw4 := bw3.trans hbl4
  clear bw3
  have cz4_2_0 : w4.cell? ⟨w.heap.size + 1 + 1, 0, none⟩ = some (.bool b9) := z4_2.cell 0
  have cz4_2_1 : w4.cell? ⟨w.heap.size + 1 + 1, 1, none⟩ = some (.slice A9 n9 c9) := z4_2.cell 1
  have cz4_2_2 : w4.cell? ⟨w.heap.size + 1 + 1, 2, none⟩ = some (.slice A'9 n'9 c'9) := z4_2.cell 2
  obtain ⟨lz4_2_0, lz4_2_1, lz4_2_2, lz4_2_3⟩ := lts2 z4_2.lt
  go_wp2_with fail
  refine bodyPost_ret (v := .agg #[.bool b9, .slice A9 n9 c9, .slice A'9 n'9 c'9]) (by simp [results, Tryz.results140, go_sem, *] <;> first | rfl | exact ⟨rfl, rfl⟩) rfl ?_
  exact ⟨b9, A9, n9, c9, A'9, n'9, c'9, rfl, h9.keep (Kp.refl w4), bw4⟩
theorem g_sub (w : World) (b : Bool) (A : Option Addr) (n c : Nat) (D : Option Addr) (m e : Nat) (q : Rat) (k : Nat) (h : QZ w b A n c D m e q k) (b' : Bool) (A' : Option Addr) (n' c' : Nat) (D' : Option Addr) (m' e' : Nat) (q' : Rat) (k' : Nat) (h' : QZ w b' A' n' c' D' m' e' q' k') (h0 : 0 < k) (hk : k ≤ 40000000) (h0' : 0 < k') (hk' : k' ≤ 40000000) :
    Calls Tryz.prog 123 #[.agg #[.bool b, .slice A n c, .slice D m e], .agg #[.bool b', .slice A' n' c', .slice D' m' e']] w (RetF w (q - q') (k + k' + 1)) := by
  rw [show q - q' = q + -q' from Rat.sub_eq_add_neg q q']
  go_enter Tryz.func123, Tryz.ntmps123
  go_wp2_with fail
  have p1 := ((((Kp.refl w).alloc (.cells #[.bool b, .slice A n c, .slice D m e] 41)).alloc (.cells #[.bool b', .slice A' n' c', .slice D' m' e'] 41)).alloc (.cells #[.bool false, .slice none 0 0, .slice none 0 0] 41))
  have bw1 := ((((brefl w).alloc (by first | omega | (simp <;> omega)) (.cells #[.bool b, .slice A n c, .slice D m e] 41)).alloc (by first | omega | (simp <;> omega)) (.cells #[.bool b', .slice A' n' c', .slice D' m' e'] 41)).alloc (by first | omega | (simp <;> omega)) (.cells #[.bool false, .slice none 0 0, .slice none 0 0] 41))
  have x1a : Blk (((w.alloc (.cells #[.bool b, .slice A n c, .slice D m e] 41)).alloc (.cells #[.bool b', .slice A' n' c', .slice D' m' e'] 41)).alloc (.cells #[.bool false, .slice none 0 0, .slice none 0 0] 41)) w.heap.size 41 #[.bool b, .slice A n c, .slice D m e] := (((blkAt _ _ _ (by simp)).alloc (.cells #[.bool b', .slice A' n' c', .slice D' m' e'] 41)).alloc (.cells #[.bool false, .slice none 0 0, .slice none 0 0] 41))
  have x1b : Blk (((w.alloc (.cells #[.bool b, .slice A n c, .slice D m e] 41)).alloc (.cells #[.bool b', .slice A' n' c', .slice D' m' e'] 41)).alloc (.cells #[.bool false, .slice none 0 0, .slice none 0 0] 41)) (w.heap.size + 1) 41 #[.bool b', .slice A' n' c', .slice D' m' e'] := ((blkAt _ _ _ (by simp)).alloc (.cells #[.bool false, .slice none 0 0, .slice none 0 0] 41))
  have x1c : Blk (((w.alloc (.cells #[.bool b, .slice A n c, .slice D m e] 41)).alloc (.cells #[.bool b', .slice A' n' c', .slice D' m' e'] 41)).alloc (.cells #[.bool false, .slice none 0 0, .slice none 0 0] 41)) (w.heap.size + 1 + 1) 41 #[.bool false, .slice none 0 0, .slice none 0 0] := (blkAt _ _ _ (by simp))
  have lw1 : w.heap.size + 3 ≤ (((w.alloc (.cells #[.bool b, .slice A n c, .slice D m e] 41)).alloc (.cells #[.bool b', .slice A' n' c', .slice D' m' e'] 41)).alloc (.cells #[.bool false, .slice none 0 0, .slice none 0 0] 41)).heap.size := by simp
  generalize hE1 : (((w.alloc (.cells #[.bool b, .slice A n c, .slice D m e] 41)).alloc (.cells #[.bool b', .slice A' n' c', .slice D' m' e'] 41)).alloc (.cells #[.bool false, .slice none 0 0, .slice none 0 0] 41)) = w1 at p1 bw1 lw1 x1a x1b x1c ⊢
  clear hE1
  replace h := h.keep p1
  replace h' := h'.keep p1
  obtain ⟨cx1aa, cx1ab, cx1ac⟩ := x1a.c3
  obtain ⟨lx1aa, lx1ab, lx1ac, lx1ad⟩ := lts0 x1a.lt
  obtain ⟨cx1ba, cx1bb, cx1bc⟩ := x1b.c3
  obtain ⟨lx1ba, lx1bb, lx1bc, lx1bd⟩ := lts1 x1b.lt
  obtain ⟨cx1ca, cx1cb, cx1cc⟩ := x1c.c3
  obtain ⟨fx1ca, fx1cb, fx1cc⟩ := x1c.f3
  obtain ⟨lx1ca, lx1cb, lx1cc, lx1cd⟩ := lts2 x1c.lt
  have nfx1_0_0 : ¬ w.heap.size = w.heap.size + 1 + 1 := by omega
  have nex1_0_0 : ¬ w.heap.size = w.heap.size + 2 := by omega
  have nfx1_1_0 : ¬ w.heap.size + 1 = w.heap.size + 1 + 1 := by omega
  have nex1_1_0 : ¬ w.heap.size = w.heap.size + 1 := by omega
  go_region_held3 (fun w' => SeesX w1.heap.size (w.heap.size + 1 + 1) w1 w') (first | with_reducible exact SeesX.of (Nat.le_refl _) (by assumption) | with_reducible exact SeesX.of (Nat.le_refl _) (brefl _).drew | with_reducible exact (SeesX.set (SeesX.set (SeesX.set (SeesX.of (Nat.le_refl _) (by assumption))))) | with_reducible exact (SeesX.set (SeesX.set (SeesX.of (Nat.le_refl _) (by assumption)))) | with_reducible exact (SeesX.set (SeesX.of (Nat.le_refl _) (by assumption))) | exact SeesX.of (Nat.le_refl _) (below_drewN (brefl _) 1) | exact SeesX.of (Nat.le_refl _) (below_drewN (by assumption) _))
    (first
      | (go_at_call 141; (with_reducible refine (g_neg _ b' A' n' c' D' m' e' (q') (k') ?_ ?_ ?_).mono ?_); (exact h'); (first | omega | decide | assumption); (first | omega | decide | assumption); rintro e w2 ⟨b2, A2, n2, c2, A'2, n'2, c'2, rfl, h2, hb2⟩; replace hb2 := bnext (below_drewN (brefl _) 1) hb2; have q2 : Below w1.heap.size w1 w2 := bnext (brefl w1) hb2; replace h := h.belw hb2; replace h' := h'.belw hb2)
      | (go_at_call 140; (with_reducible refine (g_add _ b A n c D m e (q) (k) ?_ b2 A2 n2 c2 A'2 n'2 c'2 (-(q')) ((k')) ?_ ?_ ?_ ?_ ?_).mono ?_); (exact h); (exact h2.qz); (first | omega | decide | assumption); (first | omega | decide | assumption); (first | omega | decide | assumption); (first | omega | decide | assumption); rintro e w3 ⟨b3, A3, n3, c3, A'3, n'3, c'3, rfl, h3, hb3⟩; have q3 : Below w1.heap.size w1 w3 := bnext q2 hb3; replace h := h.belw hb3; replace h' := h'.belw hb3; replace h2 := h2.belw hb3; have x1c := x1c.b q3; obtain ⟨cx1ca, cx1cb, cx1cc⟩ := x1c.c3; obtain ⟨fx1ca, fx1cb, fx1cc⟩ := x1c.f3))
  have bw3 := bw1.trans (q3.mono bw1.size)
  clear cx1aa cx1ab cx1ac lx1aa lx1ab lx1ac lx1ad cx1ba cx1bb cx1bc lx1ba lx1bb lx1bc lx1bd cx1ca fx1ca cx1cb fx1cb cx1cc fx1cc lx1ca lx1cb lx1cc lx1cd
  replace x1a := x1a.b q3
  replace x1b := x1b.b q3
  have lw3 := q3.size
  obtain ⟨cx1ca, cx1cb, cx1cc⟩ := x1c.c3
  obtain ⟨fx1ca, fx1cb, fx1cc⟩ := x1c.f3
  go_wp2_with fail
  refine bodyPost_ret (v := .agg #[.bool b3, .slice A3 n3 c3, .slice A'3 n'3 c'3]) (by simp [results, Tryz.results123, go_sem, *] <;> first | rfl | exact ⟨rfl, rfl⟩) rfl ?_
  exact ⟨b3, A3, n3, c3, A'3, n'3, c'3, rfl, h3.keep ((((Kp.refl w3).sb (w.heap.size + 1 + 1) 0 x1c.box (by decide) (.bool b3)).sb (w.heap.size + 1 + 1) 1 (x1c.box.set ⟨w.heap.size + 1 + 1, 0, none⟩ (.bool b3)) (by decide) (.slice A3 n3 c3)).sb (w.heap.size + 1 + 1) 2 ((x1c.box.set ⟨w.heap.size + 1 + 1, 0, none⟩ (.bool b3)).set ⟨w.heap.size + 1 + 1, 1, none⟩ (.slice A3 n3 c3)) (by decide) (.slice A'3 n'3 c'3)), (((bw3.sc (w.heap.size + 1 + 1) 0 (by omega) (.bool b3)).sc (w.heap.size + 1 + 1) 1 (by omega) (.slice A3 n3 c3)).sc (w.heap.size + 1 + 1) 2 (by omega) (.slice A'3 n'3 c'3))⟩
theorem g_cmp (w : World) (b : Bool) (A : Option Addr) (n c : Nat) (D : Option Addr) (m e : Nat) (q : Rat) (k : Nat) (h : QZ w b A n c D m e q k) (b' : Bool) (A' : Option Addr) (n' c' : Nat) (D' : Option Addr) (m' e' : Nat) (q' : Rat) (k' : Nat) (h' : QZ w b' A' n' c' D' m' e' q' k') (h0 : 0 < k) (hk : k ≤ 10000000) (h0' : 0 < k') (hk' : k' ≤ 10000000) :
  Calls Tryz.prog 104 #[.agg #[.bool b, .slice A n c, .slice D m e], .agg #[.bool b', .slice A' n' c', .slice D' m' e']] w (RetV w (.int .i64 (q - q').num.sign)) := by
 go_enter Tryz.func104, Tryz.ntmps104
 go_wp2_with fail
 (with_reducible refine (g_sub _ b A n c D m e (q) (k) ?_ b' A' n' c' D' m' e' (q') (k') ?_ ?_ ?_ ?_ ?_).mono ?_); (exact (h.belw (((Below.refl _ _).alloc (Nat.le_refl _) _).alloc (by simp) _))); (exact (h'.belw (((Below.refl _ _).alloc (Nat.le_refl _) _).alloc (by simp) _))); (first | omega | decide | assumption); (first | omega | decide | assumption); (first | omega | decide | assumption); (first | omega | decide | assumption); rintro e w1 ⟨b1, A1, n1, c1, A'1, n'1, c'1, rfl, h1, hb1⟩
 have q1 := (((Below.refl _ _).alloc (Nat.le_refl _) _).alloc (by simp) _).trans (hb1.mono (by simp <;> omega))
 replace h := h.belw q1
 replace h' := h'.belw q1
 have x1a : Blk w1 w.heap.size 41 #[.bool b, .slice A n c, .slice D m e] := ((blkAt _ _ _ (by simp)).alloc _).below hb1 (by simp <;> omega)
 have x1b := (blkAt _ _ _ (g := w.heap.size + 1) (by simp)).below hb1 (by simp)
 have bw1 := (brefl w).trans (q1.mono (brefl w).size)
 have lw1 : w.heap.size + 2 ≤ w1.heap.size := by have := hb1.size; simp at this; omega
 clear q1
 go_wp2_with fail
 (with_reducible refine (g_sign _ b1 A1 n1 c1 A'1 n'1 c'1 ((q) - (q')) ((k) + (k') + 1) ?_ ?_ ?_).mono ?_); (exact h1.qz); (first | omega | decide | assumption); (first | omega | decide | assumption); rintro e w2 ⟨rfl, q2⟩
 replace h := h.belw q2
 replace h' := h'.belw q2
 replace h1 := h1.belw q2
 replace x1a := x1a.b q2
 replace x1b := x1b.b q2
 have bw2 := bw1.trans (q2.mono bw1.size)
 have lw2 := q2.size
 clear q2 bw1
 go_wp2_with fail
 go_ret
 exact retI rfl bw2
theorem g_from (w : World) (b : Bool) (A : Option Addr) (n c : Nat) (z : Int) (k : Nat) (h : IZ w b A n c z k) (b' : Bool) (A' : Option Addr) (n' c' : Nat) (z' : Int) (k' : Nat) (h' : IZ w b' A' n' c' z' k') (q : Rat) (K : Nat) (hd : z' ≠ 0) (hq : Rat.divInt z z' = q) (hs : Sz q K) (hk : k + k' ≤ 300000000) :
  Calls Tryz.prog 59 #[.agg #[.bool b, .slice A n c], .agg #[.bool b', .slice A' n' c']] w (RetFe w (.int .i64 0) q K) := by
 obtain ⟨s, hs1⟩ : ∃ s, z'.sign = s := ⟨_, rfl⟩
 have e0 : ((s : Int) == 0) = false := by simp; rintro rfl; exact hd (Int.sign_eq_zero_iff_zero.1 hs1)
 have HS1 := Lib.hid hs1
 have HD := Lib.hid hd
 have HQ := Lib.hid hq
 have HS := Lib.hid hs
 clear hs1 hd hq hs
 go_enter Tryz.func59, Tryz.ntmps59
 go_wp2_with fail
 (with_reducible refine (r01_sign_e _ b' A' n' c' (z') (k') ?_ s ?_ ?_).mono ?_); (exact (h'.belw ((((Below.refl _ _).alloc (Nat.le_refl _) _).alloc (by simp) _).alloc (by simp <;> omega) _))); (exact HS1.out); (omega); rintro e w1 ⟨rfl, hb1⟩
 have q1 := ((((Below.refl _ _).alloc (Nat.le_refl _) _).alloc (by simp) _).alloc (by simp <;> omega) _).trans (hb1.mono (by simp <;> omega))
 replace h := h.belw q1
 replace h' := h'.belw q1
 have x1a : Blk w1 w.heap.size 82 #[.bool b, .slice A n c] := (((blkAt _ _ _ (by simp)).alloc _).alloc _).below hb1 (by simp <;> omega)
 have x1b := ((blkAt _ _ _ (g := w.heap.size + 1) (by simp)).alloc _).below hb1 (by simp <;> omega)
 have x1c := (blkAt _ _ _ (g := w.heap.size + 1 + 1) (by simp)).below hb1 (by simp)
 have bw1 := (brefl w).trans (q1.mono (brefl w).size)
 have lw1 : w.heap.size + 3 ≤ w1.heap.size := by have := hb1.size; simp at this; omega
 clear q1
 obtain ⟨cx1aa, cx1ab⟩ := x1a.c2
 obtain ⟨lx1aa, lx1ab, lx1ac, lx1ad⟩ := lts0 x1a.lt
 obtain ⟨cx1ba, cx1bb⟩ := x1b.c2
 obtain ⟨lx1ba, lx1bb, lx1bc, lx1bd⟩ := lts1 x1b.lt
 go_wp2_with fail
 (with_reducible refine (g_form _ b A n c (z) (k) ?_ b' A' n' c' (z') (k') ?_ q K ?_ ?_ ?_ ?_).mono ?_); (exact h); (exact h'); (exact HD.out); (exact HQ.out); (exact HS.out); (omega); rintro e w2 ⟨b2, A2, n2, c2, A'2, n'2, c'2, rfl, h2, q2⟩
 clear cx1aa cx1ab lx1aa lx1ab lx1ac lx1ad cx1ba cx1bb lx1ba lx1bb lx1bc lx1bd
 replace h := h.belw q2
 replace h' := h'.belw q2
 replace x1a := x1a.b q2
 replace x1b := x1b.b q2
 replace x1c := x1c.b q2
 have bw2 := bw1.trans (q2.mono bw1.size)
 have lw2 := q2.size
 clear q2 bw1
 obtain ⟨cx1ca, cx1cb, cx1cc⟩ := x1c.c3
 obtain ⟨fx1ca, fx1cb, fx1cc⟩ := x1c.f3
 obtain ⟨lx1ca, lx1cb, lx1cc, lx1cd⟩ := lts2 x1c.lt
 go_wp2_with fail
 refine bodyPost_ret (v := .tuple #[.agg #[.bool b2, .slice A2 n2 c2, .slice A'2 n'2 c'2], .int .i64 0]) (by simp [results, Tryz.results59, go_sem, *] <;> first | rfl | exact ⟨rfl, rfl⟩) rfl ?_
 exact ⟨b2, A2, n2, c2, A'2, n'2, c'2, rfl, h2.keep ((((Kp.refl w2).sb (w.heap.size + 1 + 1) 0 x1c.box (by decide) (.bool b2)).sb (w.heap.size + 1 + 1) 1 (x1c.box.set ⟨w.heap.size + 1 + 1, 0, none⟩ (.bool b2)) (by decide) (.slice A2 n2 c2)).sb (w.heap.size + 1 + 1) 2 ((x1c.box.set ⟨w.heap.size + 1 + 1, 0, none⟩ (.bool b2)).set ⟨w.heap.size + 1 + 1, 1, none⟩ (.slice A2 n2 c2)) (by decide) (.slice A'2 n'2 c'2)), (((bw2.sc (w.heap.size + 1 + 1) 0 (by omega) (.bool b2)).sc (w.heap.size + 1 + 1) 1 (by omega) (.slice A2 n2 c2)).sc (w.heap.size + 1 + 1) 2 (by omega) (.slice A'2 n'2 c'2))⟩
theorem g_make (w : World) (i j : Int) (hi : -4294967296 < i) (hi2 : i < 4294967296) (hj : -4294967296 < j) (hj2 : j < 4294967296) (q : Rat) (K : Nat) (hd : j ≠ 0) (hq : Rat.divInt i j = q) (hs : Sz q K) :
  Calls Tryz.prog 37 #[.int .i64 i, .int .i64 j] w (RetFe w (.int .i64 0) q K) := by
 have HD := Lib.hid hd
 have HQ := Lib.hid hq
 have HS := Lib.hid hs
 clear hd hq hs
 go_enter Tryz.func37, Tryz.ntmps37
 go_wp2_with fail
 (with_reducible refine (r01_of1 _ (i) ?_ ?_).mono ?_); (first | omega | decide | assumption); (first | omega | decide | assumption); rintro e w1 ⟨b1, A1, n1, c1, rfl, h1, hb1⟩
 have q1 := ((Below.refl _ _).alloc (Nat.le_refl _) _).trans (hb1.mono (by simp))
 have x1a : Blk w1 w.heap.size 41 #[.bool false, .slice none 0 0, .slice none 0 0] := (blkAt _ _ _ (by simp)).below hb1 (by simp)
 have bw1 := (brefl w).trans (q1.mono (brefl w).size)
 have lw1 : w.heap.size + 1 ≤ w1.heap.size := by have := hb1.size; simp at this; omega
 clear q1
 go_wp2_with fail
 (with_reducible refine (r01_of1 _ (j) ?_ ?_).mono ?_); (first | omega | decide | assumption); (first | omega | decide | assumption); rintro e w2 ⟨b2, A2, n2, c2, rfl, h2, q2⟩
 replace h1 := h1.belw q2
 replace x1a := x1a.b q2
 have bw2 := bw1.trans (q2.mono bw1.size)
 have lw2 := q2.size
 clear q2 bw1
 go_wp2_with fail
 (with_reducible refine (g_from _ b1 A1 n1 c1 (i) (1) ?_ b2 A2 n2 c2 (j) (1) ?_ q K ?_ ?_ ?_ ?_).mono ?_); (exact h1.iz); (exact h2.iz); (exact HD.out); (exact HQ.out); (exact HS.out); (decide); rintro e w3 ⟨b3, A3, n3, c3, A'3, n'3, c'3, rfl, h3, q3⟩
 replace h1 := h1.belw q3
 replace h2 := h2.belw q3
 replace x1a := x1a.b q3
 have bw3 := bw2.trans (q3.mono bw2.size)
 have lw3 := q3.size
 clear q3 bw2
 obtain ⟨cx1aa, cx1ab, cx1ac⟩ := x1a.c3
 obtain ⟨fx1aa, fx1ab, fx1ac⟩ := x1a.f3
 obtain ⟨lx1aa, lx1ab, lx1ac, lx1ad⟩ := lts0 x1a.lt
 go_wp2_with fail
 refine bodyPost_ret (v := .tuple #[.agg #[.bool b3, .slice A3 n3 c3, .slice A'3 n'3 c'3], .int .i64 0]) (by simp [results, Tryz.results37, go_sem, *] <;> first | rfl | exact ⟨rfl, rfl⟩) rfl ?_
 exact ⟨b3, A3, n3, c3, A'3, n'3, c'3, rfl, h3.keep ((((Kp.refl w3).sb w.heap.size 0 x1a.box (by decide) (.bool b3)).sb w.heap.size 1 (x1a.box.set ⟨w.heap.size, 0, none⟩ (.bool b3)) (by decide) (.slice A3 n3 c3)).sb w.heap.size 2 ((x1a.box.set ⟨w.heap.size, 0, none⟩ (.bool b3)).set ⟨w.heap.size, 1, none⟩ (.slice A3 n3 c3)) (by decide) (.slice A'3 n'3 c'3)), (((bw3.sc w.heap.size 0 (by omega) (.bool b3)).sc w.heap.size 1 (by omega) (.slice A3 n3 c3)).sc w.heap.size 2 (by omega) (.slice A'3 n'3 c'3))⟩
end Go.Proofs.YtckjakojllcdoaaGreatDoor

/- Walks: the reference: products and quotients of fractions. -/
namespace Go.Proofs.YtckjakojllcdoaaGreatDoor
open Go Go.RowKit Bn
attribute [local go_sem ↓] Go.wp_at_zero Go.wp_at_succ
theorem g_of (w : World) (i : Int) (hi : -4294967296 < i) (hi2 : i < 4294967296) :
  Calls Tryz.prog 38 #[.int .i64 i] w (RetF w (i : Rat) 1) := by
 go_enter Tryz.func38, Tryz.ntmps38
 go_wp2_with fail
 (with_reducible refine (r01_of1 _ (i) ?_ ?_).mono ?_); (first | omega | decide | assumption); (first | omega | decide | assumption); rintro e w1 ⟨b1, A1, n1, c1, rfl, h1, hb1⟩
 have q1 := ((Below.refl _ _).alloc (Nat.le_refl _) _).trans (hb1.mono (by simp))
 have x1a : Blk w1 w.heap.size 41 #[.bool false, .slice none 0 0, .slice none 0 0] := (blkAt _ _ _ (by simp)).below hb1 (by simp)
 have bw1 := (brefl w).trans (q1.mono (brefl w).size)
 have lw1 : w.heap.size + 1 ≤ w1.heap.size := by have := hb1.size; simp at this; omega
 clear q1
 go_wp2_with fail
 (with_reducible refine (g_one _).mono ?_); rintro e w2 ⟨b2, A2, n2, c2, rfl, h2, q2⟩
 replace h1 := h1.belw q2
 replace x1a := x1a.b q2
 have bw2 := bw1.trans (q2.mono bw1.size)
 have lw2 := q2.size
 clear q2 bw1
 go_wp2_with fail
 (with_reducible refine (g_form _ b1 A1 n1 c1 (i) (1) ?_ b2 A2 n2 c2 (1) (1) ?_ ((i : Rat)) (1) ?_ ?_ ?_ ?_).mono ?_); (exact h1.iz); (exact h2.iz); (decide); (exact int_q i); (exact Sz_int (by omega) (by decide)); (decide); rintro e w3 ⟨b3, A3, n3, c3, A'3, n'3, c'3, rfl, h3, q3⟩
 replace h1 := h1.belw q3
 replace h2 := h2.belw q3
 replace x1a := x1a.b q3
 have bw3 := bw2.trans (q3.mono bw2.size)
 have lw3 := q3.size
 clear q3 bw2
 obtain ⟨cx1aa, cx1ab, cx1ac⟩ := x1a.c3
 obtain ⟨fx1aa, fx1ab, fx1ac⟩ := x1a.f3
 obtain ⟨lx1aa, lx1ab, lx1ac, lx1ad⟩ := lts0 x1a.lt
 go_wp2_with fail
 refine bodyPost_ret (v := .agg #[.bool b3, .slice A3 n3 c3, .slice A'3 n'3 c'3]) (by simp [results, Tryz.results38, go_sem, *] <;> first | rfl | exact ⟨rfl, rfl⟩) rfl ?_
 exact ⟨b3, A3, n3, c3, A'3, n'3, c'3, rfl, h3.keep ((((Kp.refl w3).sb w.heap.size 0 x1a.box (by decide) (.bool b3)).sb w.heap.size 1 (x1a.box.set ⟨w.heap.size, 0, none⟩ (.bool b3)) (by decide) (.slice A3 n3 c3)).sb w.heap.size 2 ((x1a.box.set ⟨w.heap.size, 0, none⟩ (.bool b3)).set ⟨w.heap.size, 1, none⟩ (.slice A3 n3 c3)) (by decide) (.slice A'3 n'3 c'3)), (((bw3.sc w.heap.size 0 (by omega) (.bool b3)).sc w.heap.size 1 (by omega) (.slice A3 n3 c3)).sc w.heap.size 2 (by omega) (.slice A'3 n'3 c'3))⟩
end Go.Proofs.YtckjakojllcdoaaGreatDoor

/- Texts of fractions: plain. -/
namespace Bn
open Go.Lib
theorem okZ_mem {l : List UInt8} (h : okZ l = true) {c : UInt8} (hc : c ∈ l) : isDg c = true ∨ c = 45 := by
  have h1 : (tailS l).all isDg = true := by unfold okZ at h; simp at h; simpa using h.1.2
  rw [List.all_eq_true] at h1
  unfold tailS at h1
  split at h1
  · rename_i r
    rcases List.mem_cons.1 hc with e | e
    · exact .inr e
    · exact .inl (h1 c e)
  · exact .inl (h1 c hc)
def ratText (q : Rat) : List UInt8 := if q.den = 1 then itoa q.num else itoa q.num ++ 47 :: itoa (q.den : Int)
end Bn

/- Walks: what the integer laws lean on: short, Same; roots and texts as values. -/
namespace Go.Proofs.YtckjakojllcdoaaGreatDoor
open Go Go.RowKit Bn
attribute [local go_sem ↓] Go.wp_at_zero Go.wp_at_succ
def Ws (w : World) (g N : Nat) (ns : Nat → Nat) : Prop := g < w.heap.size ∧ ∀ i, i < N → ∃ b A c, w.cell? ⟨g, i * 2, none⟩ = some (.bool b) ∧ w.cell? ⟨g, i * 2 + 1, none⟩ = some (.slice A (ns i) c)
theorem Ws.belw {w w' : World} {g N : Nat} {ns : Nat → Nat} (h : Ws w g N ns) (hb : Below w.heap.size w w') : Ws w' g N ns := by
  obtain ⟨hg, h⟩ := h
  have hc := (bcell hb).1
  refine ⟨Nat.lt_of_lt_of_le hg hb.size, fun i hi => ?_⟩
  obtain ⟨b, A, c, h1, h2⟩ := h i hi
  exact ⟨b, A, c, (hc _ _ hg).trans h1, (hc _ _ hg).trans h2⟩
end Go.Proofs.YtckjakojllcdoaaGreatDoor

/- Walks: the opening of the integer laws. -/
namespace Go.Proofs.YtckjakojllcdoaaGreatDoor
open Go Go.RowKit Bn
attribute [local go_sem ↓] Go.wp_at_zero Go.wp_at_succ
theorem IZ.short {w : World} {b : Bool} {A : Option Addr} {n c k : Nat} {z : Int} (h : IZ w b A n c z k) (hs : n ≤ 30) : IZ w b A n c z 30 := by
  obtain ⟨l, h1, h2, _⟩ := h
  exact ⟨l, h1, h2, hs⟩
end Go.Proofs.YtckjakojllcdoaaGreatDoor

/- Walks: fractions: From by 0, Make, Floor, Bits, Abs, Min, Max. -/
namespace Go.Proofs.YtckjakojllcdoaaGreatDoor
open Go Go.RowKit Bn
attribute [local go_sem ↓] Go.wp_at_zero Go.wp_at_succ
theorem cmpI_rc (a b : Rat) : cmpI (a.num * b.den) (b.num * a.den) = rcmp a b := by
  unfold cmpI rcmp
  have h := cmp_q a b
  by_cases h1 : a < b
  · rw [if_pos h1, if_pos (h.1.2 h1)]
  · rw [if_neg h1, if_neg (fun x => h1 (h.1.1 x))]
    by_cases h2 : a = b
    · rw [if_pos h2, if_pos (h.2.2 h2)]
    · rw [if_neg h2, if_neg (fun x => h2 (h.2.1 x))]
theorem sub_rc (q q' : Rat) : (q - q').num.sign = rcmp q q' := by
  have h1 := sign_q (q - q')
  rw [h1]
  unfold rcmp
  have h2 : (q - q' < 0) ↔ q < q' := by constructor <;> intro h <;> grind
  have h3 : (q - q' = 0) ↔ q = q' := by constructor <;> intro h <;> grind
  by_cases h4 : q < q'
  · rw [if_pos h4, if_pos (h2.2 h4)]
  · rw [if_neg h4, if_neg (fun h => h4 (h2.1 h))]
    by_cases h5 : q = q'
    · rw [if_pos h5, if_pos (h3.2 h5)]
    · rw [if_neg h5, if_neg (fun h => h5 (h3.1 h))]
theorem f_cmp_v (w : World) (b : Bool) (A : Option Addr) (n c : Nat) (D : Option Addr) (m e : Nat) (q : Rat) (k : Nat) (h : QZ w b A n c D m e q k) (b' : Bool) (A' : Option Addr) (n' c' : Nat) (D' : Option Addr) (m' e' : Nat) (q' : Rat) (k' : Nat) (h' : QZ w b' A' n' c' D' m' e' q' k') (s : Int) (hs : rcmp q q' = s) (h0 : 0 < k) (hk : k ≤ 40000000) (h0' : 0 < k') (hk' : k' ≤ 40000000) : Calls Tryz.prog 99 #[.agg #[.bool b, .slice A n c, .slice D m e], .agg #[.bool b', .slice A' n' c', .slice D' m' e']] w (RetV w (.int .i64 s)) := by
  subst hs; rw [← cmpI_rc]; exact f_cmp w b A n c D m e q k h b' A' n' c' D' m' e' q' k' h' h0 hk h0' hk'
theorem g_cmp_v (w : World) (b : Bool) (A : Option Addr) (n c : Nat) (D : Option Addr) (m e : Nat) (q : Rat) (k : Nat) (h : QZ w b A n c D m e q k) (b' : Bool) (A' : Option Addr) (n' c' : Nat) (D' : Option Addr) (m' e' : Nat) (q' : Rat) (k' : Nat) (h' : QZ w b' A' n' c' D' m' e' q' k') (s : Int) (hs : rcmp q q' = s) (h0 : 0 < k) (hk : k ≤ 10000000) (h0' : 0 < k') (hk' : k' ≤ 10000000) : Calls Tryz.prog 104 #[.agg #[.bool b, .slice A n c, .slice D m e], .agg #[.bool b', .slice A' n' c', .slice D' m' e']] w (RetV w (.int .i64 s)) := by
  subst hs; rw [← sub_rc]; exact g_cmp w b A n c D m e q k h b' A' n' c' D' m' e' q' k' h' h0 hk h0' hk'
end Go.Proofs.YtckjakojllcdoaaGreatDoor

/- Walks: linkworkref01.Text. -/
namespace Go.Proofs.YtckjakojllcdoaaGreatDoor
open Go Go.RowKit Bn

theorem dgI_done0 {N k r : Nat} {s : List UInt8} (h : DgI N 0 k r s) (hr : ¬ 0 < r) : Lib.decDigits N = dg 0 ++ s := by
  have : r = 0 := by omega
  subst this
  exact h.done0
def dch (d : Nat) : UInt8 := UInt8.ofNat (48 + d)
theorem digit_cut {d : Nat} (h : d < 10) : (⟨#[48, 49, 50, 51, 52, 53, 54, 55, 56, 57]⟩ : ByteArray).extract d (d + 1) = ⟨[dch d].toArray⟩ := by
  have : ∀ d : Fin 10, (⟨#[48, 49, 50, 51, 52, 53, 54, 55, 56, 57]⟩ : ByteArray).extract d (d + 1) = ⟨[UInt8.ofNat (48 + d)].toArray⟩ := by decide
  exact this ⟨d, h⟩
theorem neg_r (w : World) (b : Bool) (A : Option Addr) (n c : Nat) (l : List Nat) (f : Bool) (wa : Wd w A n c l) (hn : n ≤ 1000000000) (hf : WD.s ⟨b, l⟩ = f) :
    Calls Tryz.prog 85 #[.agg #[.bool b, .slice A n c]] w (RetV w (.bool f)) := r_neg_e w b A n c l f wa (by omega) hf
def RTextI (M : Nat) (W0 wr : World) (m sv : Value) : Prop := ∃ A1 n1 c1 q s, m = .slice A1 n1 c1 ∧ sv = strV s ∧ n1 ≤ 1000000000 ∧ Kept (Wd wr A1 n1 c1 (digs q) ∧ Lib.decDigits M = dg q ++ s) ∧ Below W0.heap.size W0 wr
def RGrpI (M q : Nat) (sv rv kv : Value) : Prop := ∃ k r s, sv = strV s ∧ rv = .int .u64 (r : Nat) ∧ kv = .int .i64 (k : Nat) ∧ k ≤ 9 ∧ r < 1000000000 ∧ Kept (DgI M q k r s)
theorem r_text_C (w : World) (b : Bool) (A : Option Addr) (n c : Nat) (l : List Nat) (wa : Wd w A n c l) (hn : n ≤ 1000000000) :
    Calls Tryz.prog 56 #[.agg #[.bool b, .slice A n c]] w (RetV w (strV (Lib.itoa (WD.z ⟨b, l⟩)))) := by
  have HL := Lib.hid wa.2.1
  have hcm : Canon (WD.m ⟨b, l⟩) := WD.canon_m wa.1
  obtain ⟨M, hM⟩ : ∃ M, WD.m ⟨b, l⟩ = digs M := ⟨_, (digs_val hcm).symm⟩
  have hab : (WD.z ⟨b, l⟩).natAbs = M := by rw [z_nat, hM, val_digs]
  obtain ⟨T, hT⟩ : ∃ T, T = Lib.itoa (WD.z ⟨b, l⟩) := ⟨_, rfl⟩
  rw [itoa_abs, hab] at hT
  rw [itoa_abs, hab, ← hT]
  have HT := Lib.hid hT
  have HM := Lib.hid hM
  have HA := Lib.hid hab
  clear hT hM hab hcm
  have b0 : Below w.heap.size w (w.alloc (.cells #[.bool b, .slice A n c] 82)) := (Below.refl _ _).alloc (Nat.le_refl _) _
  have x0 : Blk (w.alloc (.cells #[.bool b, .slice A n c] 82)) w.heap.size 82 #[.bool b, .slice A n c] := blkAt _ _ _ rfl
  by_cases hM0 : M = 0
  · subst hM0
    have hz : (WD.z ⟨b, l⟩) < 0 → False := by have := HA.out; omega
    have hT0 : T = [48] := by rw [HT.out, if_neg (fun h => hz h)]; exact Lib.decDigits_one (by omega)
    subst hT0
    go_enter Tryz.func56, Tryz.ntmps56
    go_wp2_with (go_at_call 83; (with_reducible refine (r_mag_c _ b A n c l ?_ ?_).mono ?_); (exact wa.belw b0); (omega); rintro e w1 ⟨A1, n1, c1, rfl, h1, hb1⟩; rw [HM.out, digs_zero] at h1; obtain rfl : n1 = 0 := h1.2.1)
    go_ret
    exact ⟨rfl, b0.trans (hb1.mono b0.size)⟩
  · have hMp : 0 < M := Nat.pos_of_ne_zero hM0
    have HMP := Lib.hid hMp
    clear hM0 hMp
    go_enter Tryz.func56, Tryz.ntmps56
    go_wp2_with (go_at_call 83; (with_reducible refine (r_mag_c _ b A n c l ?_ ?_).mono ?_); (exact wa.belw b0); (omega); rintro e w1 ⟨A1, n1, c1, rfl, h1, hb1⟩; have hn1 : n1 ≤ 1000000000 := h1.m_len (by rw [← HL.out]; exact hn); rw [HM.out] at h1; have e1 : ((n1 : Int) == 0) = false := (by have h9 : n1 ≠ 0 := (fun e => by have h8 := h1.2.1; rw [e] at h8; exact absurd (digs_eq_nil.1 (List.eq_nil_of_length_eq_zero h8.symm)) (by have := HMP.out; omega)); simp; exact h9))
    clear e1
    go_loopw [3, 4] (fun mv sv wr => RTextI M w1 wr mv sv) (fun mv _ wr => valOf wr mv)
    case atStart => exact ⟨A1, n1, c1, M, [], rfl, rfl, hn1, ⟨h1, by rw [dg_pos HMP.out]; simp⟩, brefl _⟩
    case round =>
      obtain ⟨wo, hwo⟩ : ∃ x, x = wr := ⟨_, rfl⟩
      subst hwo
      obtain ⟨A3, n3, c3, q, s, rfl, rfl, hn3, hK, rr⟩ := hrel
      have hm5 : valOf wo (.slice A3 n3 c3) = q := by rw [hK.1.valOf, val_digs]
      have hnd : Lib.nDigits M ≤ 10 * 1000000000 := nDig_words' hn1 (by omega) (by have := h1.vlt (Nat.le_refl _); rw [val_digs] at this; exact this)
      have hln := dg_len hK.2
      have x1 : Blk w1 w.heap.size 82 #[.bool b, .slice A n c] := x0.below hb1 (by simp)
      have x2 := x1.below rr x1.lt
      have bw := ((b0.trans (hb1.mono b0.size)).trans (rr.mono (by have := hb1.size; have := b0.size; omega)))
      by_cases hq0 : q = 0
      · subst hq0
        have h0 : n3 = 0 := by have := hK.1.2.1; rw [digs_zero] at this; exact this
        subst h0
        have hps : Lib.decDigits M = s := by have := hK.2; rw [dg_zero] at this; exact this
        obtain ⟨cx0, cx1⟩ := x2.c2
        have HP := Lib.hid hps
        have HA2 := Lib.hid (show (WD.z ⟨b, l⟩) = sgn (WD.s ⟨b, l⟩) M by rw [WD.z_eq, HM.out, val_digs])
        have hsz : (⟨s.toArray⟩ : ByteArray).size ≤ 10000000000 := by show s.length ≤ _; omega
        clear hps x1 x2
        cases hs : WD.s ⟨b, l⟩
        · have HS := Lib.hid hs
          have HT2 := Lib.hid (show T = s by rw [HT.out, HP.out, HA2.out, hs, if_neg (by simp [sgn])]; rfl)
          clear hs
          go_wp2_with (go_at_call 85; (with_reducible refine (neg_r _ b A n c l false ?_ ?_ HS.out).mono ?_); (exact wa.belw bw); omega; rintro e w3 ⟨rfl, hb3⟩)
          go_ret
          exact ⟨by rw [HT2.out]; rfl, bw.trans (hb3.mono bw.size)⟩
        · have HS := Lib.hid hs
          have HT2 := Lib.hid (show T = 45 :: s by rw [HT.out, HP.out, HA2.out, hs, if_pos (by simp [sgn]; have := HMP.out; omega)]; rfl)
          clear hs
          go_wp2_with (go_at_call 85; (with_reducible refine (neg_r _ b A n c l true ?_ ?_ HS.out).mono ?_); (exact wa.belw bw); omega; rintro e w3 ⟨rfl, hb3⟩)
          go_ret
          refine ⟨?_, bw.trans (hb3.mono bw.size)⟩
          rw [HT2.out]
          exact congrArg (fun x => Ending.returned (.string x)) (cat_v [45] s)
      · have hqp : 0 < q := Nat.pos_of_ne_zero hq0
        have hn30 : n3 ≠ 0 := fun e => hq0 (digs_eq_nil.1 (List.eq_nil_of_length_eq_zero (by rw [← hK.1.2.1]; exact e)))
        have hn3p : 0 < n3 := by omega
        have HL3 := Lib.hid hK.1.2.1
        have HQP := Lib.hid hqp
        obtain ⟨lq, hlq⟩ : ∃ lq, digs q = lq := ⟨_, rfl⟩
        have HLQ := Lib.hid hlq
        have hvq : val lq = q := by rw [← hlq, val_digs]
        have HVQ := Lib.hid hvq
        have hw3 := hK.1
        rw [hlq] at hw3 HL3
        clear hq0 hqp hn30 hlq hvq x1
        go_wp2_with (at_make; refine wpList_make_words _ rfl _ _ rfl _ _ _ _ n3 rfl rfl (by omega) (by omega) (by omega) ?_)
        go_loopw [5, 7] (fun rv iv wx => ∃ (k r : Nat) (L : List Nat), k ≤ n3 ∧ iv = .int .i64 ((k : Int) - 1) ∧ rv = .int .u64 (r : Nat) ∧ r < 1000000000 ∧ L.length = n3 ∧ ShortI lq L 1000000000 k r ∧ Blk wx wo.heap.size 104 (cellsOf L) ∧ Below wo.heap.size wo wx) (fun _ iv _ => (intOf iv + 1).toNat)
        case atStart => exact ⟨n3, 0, List.replicate n3 0, Nat.le_refl _, rfl, rfl, by omega, by simp, ⟨by intro x hx; rw [List.eq_of_mem_replicate hx]; omega, by omega, by rw [HL3.out]; simp [val]⟩, Blk.new _ _ _, (Below.refl _ _).alloc (Nat.le_refl _) _⟩
        case round =>
          obtain ⟨k, r, L, hk, rfl, rfl, hr, hLM, hI, hB, hbel⟩ := hrel
          have HI := Lib.hid hI
          have HB := Lib.hid hB
          have HLM := Lib.hid hLM
          clear hI hB hLM
          by_cases hk0 : k = 0
          · subst hk0
            have h1' := HI.out.2.2
            simp only [List.drop_zero] at h1'
            have hq' : val lq / 1000000000 = val L := by
              rw [h1', Nat.mul_add_div (by omega), Nat.div_eq_of_lt HI.out.2.1, Nat.add_zero]
            have hm' : val lq % 1000000000 = r := by rw [h1']; rw [Nat.mul_add_mod]; exact Nat.mod_eq_of_lt HI.out.2.1
            rw [HVQ.out] at hq' hm'
            have hst := DgI.start hK.2
            rw [hm', hq'] at hst
            obtain ⟨q', hqq⟩ : ∃ q', val L = q' := ⟨_, rfl⟩
            rw [hqq] at hst hq'
            have HQ := Lib.hid (And.intro hq' hm')
            have HQQ := Lib.hid hqq
            have HST := Lib.hid hst
            clear hq' hm' h1' hqq hst
            go_wp2_with (go_at_call 84; (with_reducible refine (r_trim_c _ _ n3 n3 L ?_ ?_).mono ?_); (exact HB.out.wdN HI.out.1 HLM.out); omega; rintro e w4 ⟨A4, n4, c4, rfl, h4, hb4⟩; rw [HQQ.out] at h4)
            have hn4 : n4 ≤ 1000000000 := by
              rw [h4.2.1]
              exact Nat.le_trans (length_digs_le (Nat.lt_of_le_of_lt (by rw [← HQ.out.1]; exact Nat.div_le_self _ _) (by have := hK.1.vlt (Nat.le_refl _); rw [val_digs] at this; exact this))) hn3
            have H4 := Lib.hid h4
            have HLT := Lib.hid (show q' < q by rw [← HQ.out.1]; exact Nat.div_lt_self HQP.out (by omega))
            have hb5 : Below wo.heap.size wo w4 := hbel.trans (hb4.mono hbel.size)
            clear h4
            go_loop [4, 5, 8] (fun sv rv kv => RGrpI M q' sv rv kv) (fun _ _ kv => 9 - (intOf kv).toNat)
            case atStart => exact ⟨0, r, s, rfl, rfl, rfl, by omega, hr, HST.out⟩
            case round =>
              obtain ⟨j, r1, s1, rfl, rfl, rfl, hj, hr1, hG⟩ := hrel
              have hl1 := hG.len
              have hsz : (⟨s1.toArray⟩ : ByteArray).size ≤ 10000000000 := by show s1.length ≤ _; omega
              by_cases hj9 : j = 9
              · subst hj9
                go_wp2
                go_roundw
                case rel => exact ⟨A4, n4, c4, q', s1, rfl, rfl, hn4, ⟨H4.out, hG.done9⟩, rr.trans (hb5.mono rr.size)⟩
                case measure => rw [H4.out.valOf, hm5, val_digs]; exact HLT.out
              · have hj8 : j < 9 := by omega
                obtain ⟨d, hd⟩ : ∃ d, r1 % 10 = d := ⟨_, rfl⟩
                obtain ⟨r2, hr2⟩ : ∃ r2, r1 / 10 = r2 := ⟨_, rfl⟩
                have hd10 : d < 10 := by omega
                have e1 : (r1 : Int) % 10 = (d : Int) := by omega
                have e2 : (r1 : Int) / 10 = (r2 : Int) := by omega
                have e4 : (⟨#[48, 49, 50, 51, 52, 53, 54, 55, 56, 57]⟩ : ByteArray).extract d (d + 1) = ⟨[dch d].toArray⟩ := digit_cut hd10
                have HD := Lib.hid (And.intro hd hr2)
                clear hd hr2 hj9
                by_cases h0 : 0 < r1
                · have HG := Lib.hid (hG.step hj8 (.inl h0))
                  rw [HD.out.1, HD.out.2] at HG
                  clear hG
                  go_wp2
                  go_round
                  case rel => exact ⟨j + 1, r2, _, rfl, rfl, by go_num, by omega, by have := HD.out.2; omega, HG.out⟩
                  case measure => simp [intOf]; omega
                · by_cases h1 : q' = 0
                  · subst h1
                    have hn40 : n4 = 0 := by have := H4.out.2.1; rw [digs_zero] at this; exact this
                    subst hn40
                    go_wp2
                    go_roundw
                    case rel => exact ⟨A4, 0, c4, 0, s1, rfl, rfl, by omega, ⟨H4.out, dgI_done0 hG h0⟩, rr.trans (hb5.mono rr.size)⟩
                    case measure => rw [H4.out.valOf, hm5, val_digs]; exact HLT.out
                  · have hn4p : 0 < n4 := Nat.pos_of_ne_zero fun e => h1 (digs_eq_nil.1 (List.eq_nil_of_length_eq_zero (by rw [← H4.out.2.1]; exact e)))
                    have HG := Lib.hid (hG.step hj8 (.inr (Nat.pos_of_ne_zero h1)))
                    rw [HD.out.1, HD.out.2] at HG
                    clear hG h1
                    go_wp2
                    go_round
                    case rel => exact ⟨j + 1, r2, _, rfl, rfl, by go_num, by omega, by have := HD.out.2; omega, HG.out⟩
                    case measure => simp [intOf]; omega
          · obtain ⟨g, o, rfl, hgl, hc1⟩ := (hw3.keep ((Kp.refl wo).below hbel)).at2 hn3p
            have hcx := hc1 (k - 1) (by omega)
            obtain ⟨x, hx⟩ : ∃ x, wd lq (k - 1) = x := ⟨_, rfl⟩
            have hx1 : x < 4294967296 := by rw [← hx]; exact hw3.lt _
            rw [hx] at hcx
            have HX := Lib.hid hx
            have hck := HB.out.cell (k - 1)
            rw [cellsOf_get (by rw [HLM.out]; omega)] at hck
            have hfk := HB.out.frozen (k - 1)
            have hkp : 0 < k := by omega
            obtain ⟨sx, hs⟩ : ∃ s : Nat, s = r * 4294967296 + x := ⟨_, rfl⟩
            have e1 : bits .or .u64 ((r : Int) * 4294967296) (x : Int) = (sx : Int) := by rw [hs]; exact join_word (by omega) hx1
            have HS := Lib.hid hs
            have hsb : sx / 1000000000 < 4294967296 := by rw [hs]; omega
            obtain ⟨t, ht⟩ : ∃ t : Nat, sx / 1000000000 = t := ⟨_, rfl⟩
            obtain ⟨r2, hr2⟩ : ∃ r2, sx % 1000000000 = r2 := ⟨_, rfl⟩
            rw [ht] at hsb
            have e2 : (sx : Int) / 1000000000 = (t : Int) := by omega
            have e3 : (sx : Int) % 1000000000 = (r2 : Int) := by omega
            have hsx : sx < 18446744073709551616 := by omega
            have hr3 : r2 < 1000000000 := by omega
            have HT := Lib.hid (And.intro ht hr2)
            clear hx hc1 hk0 hs ht hr2
            go_wp2
            clear e1 e2 e3
            go_roundw
            case rel =>
              refine ⟨k - 1, r2, L.set (k - 1) t, by omega, by go_num, by congr 1; have := HT.out.2; omega, hr3, by rw [List.length_set]; exact HLM.out, ⟨wds_set HI.out.1 _ hsb, hr3, ?_⟩, ?_, hbel.setCell (Nat.le_refl _) _⟩
              · rw [val_drop lq (by rw [← HL3.out]; omega), val_drop (L.set (k - 1) t) (by rw [List.length_set, HLM.out]; omega), drop_set_succ, show k - 1 + 1 = k by omega, HX.out, wd_set, if_pos ⟨rfl, by rw [HLM.out]; omega⟩, ← HT.out.1, ← HT.out.2, HS.out]
                exact short_step HI.out.2.2
              · exact HB.out.setW (k - 1) _ _ (by omega)
            case measure => simp [intOf]; omega
end Go.Proofs.YtckjakojllcdoaaGreatDoor

/- Texts of integers by their values; errors as numbers. -/
namespace Go.Proofs.YtckjakojllcdoaaGreatDoor
open Go Go.RowKit Bn

theorem b_num_nil (w : World) : Calls Tryz.prog 11 #[.nilIface] w (RetV w (.int .i64 0)) := by
 go_enter Tryz.func11, Tryz.ntmps11
 go_wp2
 go_ret
 exact ⟨rfl, brefl w⟩
theorem run_as_err (x : Int) (w : World) : (Instr.typeAssert (.iface 66 (.int .i64 x)) 30 66 true).run Tryz.prog w = .ok (.tuple #[.int .i64 x, .bool true]) w := by
  simp [Instr.typeAssert, run_underlying Tryz.underlying66]
theorem b_num_err (w : World) (x : Int) : Calls Tryz.prog 11 #[.iface 66 (.int .i64 x)] w (RetV w (.int .i64 x)) := by
 go_enter Tryz.func11, Tryz.ntmps11
 have hr := run_as_err x
 go_wp2
 go_ret
 exact ⟨rfl, brefl w⟩
theorem i_text_l (w : World) (b : Bool) (A : Option Addr) (n c : Nat) (z : Int) (k : Nat) (h : IZ w b A n c z k) (T : List UInt8) (hk : k ≤ 1000000000) (ht : Tab w) (hT : Lib.itoa z = T) : Calls Tryz.prog 52 #[.agg #[.bool b, .slice A n c]] w (RetV w (strV T)) := by
  subst hT
  obtain ⟨l, h1, rfl, h3⟩ := h
  exact text_C w b A n c l h1 (by omega) ht
theorem r01_text_l (w : World) (b : Bool) (A : Option Addr) (n c : Nat) (z : Int) (k : Nat) (h : IZ w b A n c z k) (T : List UInt8) (hk : k ≤ 1000000000) (hT : Lib.itoa z = T) : Calls Tryz.prog 56 #[.agg #[.bool b, .slice A n c]] w (RetV w (strV T)) := by
  subst hT
  obtain ⟨l, h1, rfl, h3⟩ := h
  exact r_text_C w b A n c l h1 (by omega)
theorem i_cmp_w (w : World) (b : Bool) (A : Option Addr) (n c : Nat) (z : Int) (k : Nat) (h : IZ w b A n c z k) (b' : Bool) (A' : Option Addr) (n' c' : Nat) (z' : Int) (k' : Nat) (h' : IZ w b' A' n' c' z' k') (v : Int) (hv : cmpI z z' = v) (hk : k + k' ≤ 1000000000) : Calls Tryz.prog 50 #[.agg #[.bool b, .slice A n c], .agg #[.bool b', .slice A' n' c']] w (RetV w (.int .i64 v)) := by
  subst hv; exact i_cmp w b A n c z k h b' A' n' c' z' k' h' hk
end Go.Proofs.YtckjakojllcdoaaGreatDoor

/- Texts of fractions: what reading one gives. Plain. -/
namespace Bn
open Go.Lib
def decOk (F B : List UInt8) : Bool := okZ (tailS F) && decide (0 ≤ valZ (tailS F)) && decide (B ≠ []) && B.all isDg
def decN (F B : List UInt8) : Int := valZ (tailS F) * 10 ^ B.length + decVal B
def decQ (F B : List UInt8) : Rat := Rat.divInt (if headM F then -(decN F B) else decN F B) (10 ^ B.length)
def quoOk (F B : List UInt8) : Bool := okZ F && okZ B && decide (0 < valZ B) && decide (valZ B ≠ 1) && decide (Nat.gcd (valZ F).natAbs (valZ B).natAbs = 1)
inductive FracOut (s : List UInt8) (x : Int) (q : Rat) : Prop
  | big (h : 65536 < s.length) (hx : x = 4) (hq : q = 0)
  | dot (F B : List UInt8) (hl : s.length ≤ 65536) (hs : s = F ++ 46 :: B) (hF : 46 ∉ F) (h64 : s.length ≤ 64) (h : decOk F B = true) (hx : x = 0) (hq : q = decQ F B)
  | dotNo (F B : List UInt8) (hl : s.length ≤ 65536) (hs : s = F ++ 46 :: B) (hF : 46 ∉ F) (h : 64 < s.length ∨ decOk F B = false) (hx : x = 2) (hq : q = 0)
  | quo (F B : List UInt8) (hl : s.length ≤ 65536) (hd : 46 ∉ s) (hs : s = F ++ 47 :: B) (hF : 47 ∉ F) (h : quoOk F B = true) (hx : x = 0) (hq : q = Rat.divInt (valZ F) (valZ B))
  | quoNo (F B : List UInt8) (hl : s.length ≤ 65536) (hd : 46 ∉ s) (hs : s = F ++ 47 :: B) (hF : 47 ∉ F) (h : quoOk F B = false) (hx : x = 2) (hq : q = 0)
  | whole (hl : s.length ≤ 65536) (hd : 46 ∉ s) (hs : 47 ∉ s) (h : okZ s = true) (hx : x = 0) (hq : q = ((valZ s : Int) : Rat))
  | wholeNo (hl : s.length ≤ 65536) (hd : 46 ∉ s) (hs : 47 ∉ s) (h : okZ s = false) (hx : x = 2) (hq : q = 0)
end Bn

/- Walks: linkworkref01.Parse. -/
namespace Go.Proofs.YtckjakojllcdoaaGreatDoor
open Go Go.RowKit Bn

def RetP (w : World) (T : List UInt8) (m : Bool) (k : Nat) (e : Ending) (w' : World) : Prop :=
  if T.all isDg = true then RetIe w (.int .i64 0) (if m then -(decVal T : Int) else decVal T) k e w' else RetIe w (.int .i64 2) 0 0 e w'
theorem RetP.good {w w' : World} {T : List UInt8} {m : Bool} {k : Nat} {e : Ending} (h : T.all isDg = true) (hr : RetIe w (.int .i64 0) (if m then -(decVal T : Int) else decVal T) k e w') : RetP w T m k e w' := by
  unfold RetP; rw [if_pos h]; exact hr
end Go.Proofs.YtckjakojllcdoaaGreatDoor

/- Walks: IntegerTexts. -/
namespace Go.Proofs.YtckjakojllcdoaaGreatDoor
open Go Go.RowKit Bn
attribute [local go_sem ↓] Go.wp_at_zero Go.wp_at_succ
def errV (x : Int) : Value := if x = 0 then .nilIface else .iface 66 (.int .i64 x)
theorem RetIe.mono {w w' : World} {v : Value} {z : Int} {k j : Nat} {e : Ending} (h : RetIe w v z k e w') (hk : k ≤ j) : RetIe w v z j e w' := by
  obtain ⟨b, A, n, c, h1, h2, h3⟩ := h
  exact ⟨b, A, n, c, h1, h2.mono hk, h3⟩
theorem b_num_v (w : World) (x : Int) : Calls Tryz.prog 11 #[errV x] w (RetV w (.int .i64 x)) := by
  unfold errV
  split
  · rename_i h; subst h; exact b_num_nil w
  · exact b_num_err w x
end Go.Proofs.YtckjakojllcdoaaGreatDoor

/- Walks: tokens: Split. -/
namespace Go.Proofs.YtckjakojllcdoaaGreatDoor
open Go Go.RowKit Bn
attribute [local go_sem ↓] Go.wp_at_zero Go.wp_at_succ
def tokC (t : Tkn) : List Value := [.int .i64 (t.kind : Nat), strV t.text, .int .i64 (t.line : Nat), .int .i64 (t.col : Nat)]
def tokCs (l : List Tkn) : List Value := l.flatMap tokC
def TkS (w : World) (A : Option Addr) (n c : Nat) (l : List Tkn) : Prop := l.length = n ∧ ((n = 0 ∧ A = none ∧ c = 0) ∨ ∃ g, A = some ⟨g, 0, none⟩ ∧ n ≤ c ∧ ∀ i v, (tokCs l)[i]? = some v → w.cell? ⟨g, i, none⟩ = some v)
theorem TkS.belw {w w' : World} {A : Option Addr} {n c : Nat} {l : List Tkn} (h : TkS w A n c l) (hb : Below w.heap.size w w') : TkS w' A n c l := by
  refine ⟨h.1, ?_⟩
  rcases h.2 with h | ⟨g, e, hc, h⟩
  · exact .inl h
  · exact .inr ⟨g, e, hc, fun i v hv => (hb.cell (p := ⟨g, i, none⟩) (World.block_lt_of_cell? w _ (h i v hv))).trans (h i v hv)⟩
theorem TkS.nil (w : World) : TkS w none 0 0 [] := ⟨rfl, .inl ⟨rfl, rfl, rfl⟩⟩
theorem TkS.of_own {w : World} {base : Nat} {e : TypeId} {v : Value} {l : List Tkn} (h : w.ownsRow base e 4 v l.length (tokCs l)) : ∃ A c, v = .slice A l.length c ∧ TkS w A l.length c l := by
  rcases h.2 with ⟨rfl, h0⟩ | ⟨g, cap, cur, rfl, hb, hg, hn, hc, hs, ht⟩
  · exact ⟨none, 0, by rw [h0], rfl, .inl ⟨h0, rfl, rfl⟩⟩
  · refine ⟨_, _, rfl, rfl, .inr ⟨g, rfl, hn, fun i v hv => ?_⟩⟩
    rw [cell_of_row w g i cur e (0, 0) hg]
    rw [← ht, List.getElem?_take] at hv
    split at hv
    · simpa using hv
    · cases hv
def pre (d : List Tkn) : Toks → Toks
  | .ok l => .ok (d ++ l)
  | .err x => .err x
inductive SplitOut (s : List UInt8) (x : Int) (l : List Tkn) : Prop
  | big (h : 65536 < s.length) (hx : x = 4) (hl : l = [])
  | ok (h : s.length ≤ 65536) (ht : tokens s = .ok l) (hx : x = 0)
  | err (n : Nat) (h : s.length ≤ 65536) (ht : tokens s = .err n) (hx : x = (n : Int)) (hl : l = [])
end Go.Proofs.YtckjakojllcdoaaGreatDoor

/- Walks: tokens: Same, alike. -/
namespace Go.Proofs.YtckjakojllcdoaaGreatDoor
open Go Go.RowKit Bn
attribute [local go_sem ↓] Go.wp_at_zero Go.wp_at_succ
theorem tokCs_at {l : List Tkn} {i : Nat} (h : i < l.length) : (tokCs l)[i * 4]? = some (.int .i64 (l[i].kind : Nat)) ∧ (tokCs l)[i * 4 + 1]? = some (strV l[i].text) ∧ (tokCs l)[i * 4 + 2]? = some (.int .i64 (l[i].line : Nat)) ∧ (tokCs l)[i * 4 + 3]? = some (.int .i64 (l[i].col : Nat)) := by
  induction l generalizing i with
  | nil => simp at h
  | cons t l ih =>
    have e : tokCs (t :: l) = [.int .i64 (t.kind : Nat), strV t.text, .int .i64 (t.line : Nat), .int .i64 (t.col : Nat)] ++ tokCs l := rfl
    rw [e]
    cases i with
    | zero => simp
    | succ i =>
      have h1 := ih (i := i) (by simpa using h)
      have s : (i + 1) * 4 = i * 4 + 4 := by omega
      rw [s]
      simp only [List.getElem_cons_succ]
      refine ⟨?_, ?_, ?_, ?_⟩
      · rw [List.getElem?_append_right (by simp)]; exact h1.1
      · rw [List.getElem?_append_right (by simp)]; exact h1.2.1
      · rw [List.getElem?_append_right (by simp)]; exact h1.2.2.1
      · rw [List.getElem?_append_right (by simp)]; exact h1.2.2.2
theorem TkS.cells {w : World} {A : Option Addr} {n c : Nat} {l : List Tkn} (h : TkS w A n c l) {i : Nat} (hi : i < n) : ∃ g t, A = some ⟨g, 0, none⟩ ∧ n ≤ c ∧ l[i]? = some t ∧ w.cell? ⟨g, i * 4, none⟩ = some (.int .i64 (t.kind : Nat)) ∧ w.cell? ⟨g, i * 4 + 1, none⟩ = some (strV t.text) ∧ w.cell? ⟨g, i * 4 + 2, none⟩ = some (.int .i64 (t.line : Nat)) ∧ w.cell? ⟨g, i * 4 + 3, none⟩ = some (.int .i64 (t.col : Nat)) := by
  have hl := h.1
  rcases h.2 with ⟨h0, _⟩ | ⟨g, e, hc, h2⟩
  · omega
  · have h3 := tokCs_at (l := l) (i := i) (by omega)
    exact ⟨g, _, e, hc, List.getElem?_eq_getElem (by omega), h2 _ _ h3.1, h2 _ _ h3.2.1, h2 _ _ h3.2.2.1, h2 _ _ h3.2.2.2⟩
end Go.Proofs.YtckjakojllcdoaaGreatDoor

/- Walks: tokens: names, joined texts. -/
namespace Go.Proofs.YtckjakojllcdoaaGreatDoor
open Go Go.RowKit Bn
attribute [local go_sem ↓] Go.wp_at_zero Go.wp_at_succ
def nameOk (s : List UInt8) : Bool := decide (0 < wordN s) && decide (wordN s = s.length) && decide (wordN s ≤ 24)
def joinT : List (List UInt8) → List UInt8
  | [] => []
  | [x] => x
  | x :: y :: r => x ++ 32 :: joinT (y :: r)
theorem joinT_eq (xs : List (List UInt8)) : Lib.join xs [32] = joinT xs := by
  induction xs with
  | nil => rfl
  | cons x r ih =>
    cases r with
    | nil => rw [Lib.join_one]; rfl
    | cons y r =>
      rw [joinT, ← ih]
      rw [Lib.join_cons, Lib.join_cons]
      simp [Lib.joinTail]
theorem app_v (a b : List UInt8) : (⟨a.toArray⟩ : ByteArray) ++ (⟨b.toArray⟩ : ByteArray) = ⟨(a ++ b).toArray⟩ := by
  apply ByteArray.ext
  simp
theorem t_name (w : World) (s : List UInt8) (hs : s.length < 4611686018427387904) (v : Bool) (hv : nameOk s = v) : Calls Tryz.prog 39 #[strV s] w (RetV w (.bool v)) := by
 have hszs := size_v s
 obtain ⟨n, hwn⟩ : ∃ n, wordN s = n := ⟨_, rfl⟩
 have hnl : n ≤ s.length := by rw [← hwn]; exact wordN_le s
 unfold nameOk at hv
 rw [hwn] at hv
 rcases (show n = 0 ∨ (0 < n ∧ n ≠ s.length) ∨ (0 < n ∧ n = s.length ∧ 24 < n) ∨ (0 < n ∧ n = s.length ∧ n ≤ 24) by omega) with h1 | ⟨h1, h2⟩ | ⟨h1, h2, h3⟩ | ⟨h1, h2, h3⟩
 ·have g0 : ((0 : Int) < (n : Int)) = False := eq_false (by omega)
  obtain rfl : v = false := by rw [← hv]; simp; omega
  have g8 : (n == 0) = true := by simp; omega
  clear hv
  go_enter Tryz.func39, Tryz.ntmps39
  go_wp2_with fail
  (with_reducible refine (t_word _ (s) hs n hwn).mono ?_); rintro e w1 ⟨rfl, q1⟩
  have bw1 := (brefl w).trans (q1.mono (brefl w).size)
  have lw1 := q1.size
  clear q1
  go_wp2_with fail
  go_ret
  exact retB rfl bw1
 ·have g0 : ((0 : Int) < (n : Int)) = True := eq_true (by omega)
  have g1 : ((n : Int) == (s.length : Int)) = false := by simp; omega
  obtain rfl : v = false := by rw [← hv]; simp; omega
  clear hv h2
  go_enter Tryz.func39, Tryz.ntmps39
  go_wp2_with fail
  (with_reducible refine (t_word _ (s) hs n hwn).mono ?_); rintro e w1 ⟨rfl, q1⟩
  have bw1 := (brefl w).trans (q1.mono (brefl w).size)
  have lw1 := q1.size
  clear q1
  go_wp2_with fail
  go_ret
  exact retB rfl bw1
 ·have g0 : ((0 : Int) < (n : Int)) = True := eq_true (by omega)
  have g1 : ((n : Int) == (s.length : Int)) = true := by simp; omega
  have g2 : ((n : Int) ≤ 24) = False := eq_false (by omega)
  obtain rfl : v = false := by rw [← hv]; simp; omega
  clear hv h2
  go_enter Tryz.func39, Tryz.ntmps39
  go_wp2_with fail
  (with_reducible refine (t_word _ (s) hs n hwn).mono ?_); rintro e w1 ⟨rfl, q1⟩
  have bw1 := (brefl w).trans (q1.mono (brefl w).size)
  have lw1 := q1.size
  clear q1
  go_wp2_with fail
  go_ret
  exact retB rfl bw1
 ·have g0 : ((0 : Int) < (n : Int)) = True := eq_true (by omega)
  have g1 : ((n : Int) == (s.length : Int)) = true := by simp; omega
  have g2 : ((n : Int) ≤ 24) = True := eq_true (by omega)
  obtain rfl : v = true := by rw [← hv, decide_eq_true (show 0 < n by omega), decide_eq_true (show n = s.length by omega), decide_eq_true (show n ≤ 24 by omega)]; rfl
  clear hv h2
  go_enter Tryz.func39, Tryz.ntmps39
  go_wp2_with fail
  (with_reducible refine (t_word _ (s) hs n hwn).mono ?_); rintro e w1 ⟨rfl, q1⟩
  have bw1 := (brefl w).trans (q1.mono (brefl w).size)
  have lw1 := q1.size
  clear q1
  go_wp2_with fail
  go_ret
  exact retB rfl bw1
theorem r_name (w : World) (s : List UInt8) (hs : s.length < 4611686018427387904) (v : Bool) (hv : nameOk s = v) : Calls Tryz.prog 45 #[strV s] w (RetV w (.bool v)) := by
 have hszs := size_v s
 obtain ⟨n, hwn⟩ : ∃ n, wordN s = n := ⟨_, rfl⟩
 have hnl : n ≤ s.length := by rw [← hwn]; exact wordN_le s
 unfold nameOk at hv
 rw [hwn] at hv
 rcases (show s.length = 0 ∨ 24 < s.length ∨ (0 < s.length ∧ s.length ≤ 24 ∧ n ≠ s.length) ∨ (0 < s.length ∧ s.length ≤ 24 ∧ n = s.length) by omega) with h1 | h1 | ⟨h1, h2, h3⟩ | ⟨h1, h2, h3⟩
 ·have g0 : ((0 : Int) < (s.length : Int)) = False := eq_false (by omega)
  obtain rfl : v = false := by rw [← hv]; simp; omega
  clear hv
  go_enter Tryz.func45, Tryz.ntmps45
  go_wp2_with fail
  go_ret
  exact retB (by first | rfl | (simp; omega)) (brefl w)
 ·have g0 : ((0 : Int) < (s.length : Int)) = True := eq_true (by omega)
  have g1 : ((s.length : Int) ≤ 24) = False := eq_false (by omega)
  obtain rfl : v = false := by rw [← hv]; simp; omega
  clear hv
  go_enter Tryz.func45, Tryz.ntmps45
  go_wp2_with fail
  go_ret
  exact retB (by first | rfl | (simp; omega)) (brefl w)
 ·have g0 : ((0 : Int) < (s.length : Int)) = True := eq_true (by omega)
  have g1 : ((s.length : Int) ≤ 24) = True := eq_true (by omega)
  have g2 : ((n : Int) == (s.length : Int)) = false := by simp; omega
  obtain rfl : v = false := by rw [← hv]; simp; omega
  clear hv
  go_enter Tryz.func45, Tryz.ntmps45
  go_wp2_with fail
  (with_reducible refine (r_wordEnd_x _ (s) (0) 0 rfl (Nat.zero_le _) hs (n : Nat) (by rw [List.drop_zero, hwn, Nat.zero_add])).mono ?_); rintro e w1 ⟨rfl, q1⟩
  have bw1 := (brefl w).trans (q1.mono (brefl w).size)
  have lw1 := q1.size
  clear q1
  go_wp2_with fail
  go_ret
  exact retB (by first | rfl | (simp; omega)) bw1
 ·have g0 : ((0 : Int) < (s.length : Int)) = True := eq_true (by omega)
  have g1 : ((s.length : Int) ≤ 24) = True := eq_true (by omega)
  have g2 : ((n : Int) == (s.length : Int)) = true := by simp; omega
  obtain rfl : v = true := by rw [← hv, decide_eq_true (show 0 < n by omega), decide_eq_true (show n = s.length by omega), decide_eq_true (show n ≤ 24 by omega)]; rfl
  clear hv
  go_enter Tryz.func45, Tryz.ntmps45
  go_wp2_with fail
  (with_reducible refine (r_wordEnd_x _ (s) (0) 0 rfl (Nat.zero_le _) hs (n : Nat) (by rw [List.drop_zero, hwn, Nat.zero_add])).mono ?_); rintro e w1 ⟨rfl, q1⟩
  have bw1 := (brefl w).trans (q1.mono (brefl w).size)
  have lw1 := q1.size
  clear q1
  go_wp2_with fail
  go_ret
  exact retB (by first | rfl | (simp; omega)) bw1
end Go.Proofs.YtckjakojllcdoaaGreatDoor

/- Linkages: plain: what is wrong with one. -/
namespace Go.Proofs.YtckjakojllcdoaaGreatDoor
open Go Go.RowKit Bn
structure MarkL where
  name : List UInt8
  x : RD
  y : RD
structure BodyL where
  name : List UInt8
  pts : List MarkL
structure JointL where
  name : List UInt8
  kind : Int
  a : Int
  point : Int
  b : Int
  on : Int
  to_ : Int
structure DriverL where
  name : List UInt8
  body : Int
structure LinkL where
  name : List UInt8
  bodies : List BodyL
  joints : List JointL
  drivers : List DriverL
def errs {α : Type} (f : List α → α → Int) : List α → List α → Int
  | _, [] => 0
  | prev, a :: r => if f prev a = 0 then errs f (prev ++ [a]) r else f prev a
theorem errs_step {α : Type} {f : List α → α → Int} {l : List α} {i : Nat} {x : Int} (h : errs f (l.take i) (l.drop i) = x) {a : α} (ha : l[i]? = some a) :
    (f (l.take i) a = 0 ∧ errs f (l.take (i + 1)) (l.drop (i + 1)) = x) ∨ (f (l.take i) a ≠ 0 ∧ f (l.take i) a = x) := by
  obtain ⟨hl, he⟩ := List.getElem?_eq_some_iff.1 ha
  have hd : l.drop i = a :: l.drop (i + 1) := by rw [List.drop_eq_getElem_cons hl, he]
  have ht : l.take (i + 1) = l.take i ++ [a] := by rw [List.take_add_one, ha]; rfl
  rw [hd] at h
  unfold errs at h
  rw [ht]
  split at h
  · left; rename_i h0; exact ⟨h0, h⟩
  · right; rename_i h0; exact ⟨h0, h⟩
theorem errs_end {α : Type} {f : List α → α → Int} {l : List α} {i : Nat} {x : Int} (h : errs f (l.take i) (l.drop i) = x) (hi : l.length ≤ i) : x = 0 := by
  rw [List.drop_eq_nil_of_le hi] at h
  exact h.symm
theorem errs_start {α : Type} {f : List α → α → Int} {l : List α} {x : Int} (h : errs f [] l = x) : errs f (l.take 0) (l.drop 0) = x := h
def twN (l : List (List UInt8)) (n : List UInt8) : Bool := l.any fun m => m == n
theorem twM_step {α : Type} {f : α → List UInt8} {l : List α} {j : Nat} {a : α} {nm : List UInt8} (ha : l[j]? = some a) (h : twN ((l.take j).map f) nm = false) (hne : f a ≠ nm) : twN ((l.take (j + 1)).map f) nm = false := by
  have ht : l.take (j + 1) = l.take j ++ [a] := by rw [List.take_add_one, ha]; rfl
  unfold twN at h ⊢
  rw [ht, List.map_append, List.any_append, h]
  simpa using hne
theorem twM_hit {α : Type} {f : α → List UInt8} {l : List α} {j i : Nat} {a : α} {nm : List UInt8} (ha : l[j]? = some a) (hji : j < i) (he : f a = nm) : twN ((l.take i).map f) nm = true := by
  unfold twN
  rw [List.any_eq_true]
  refine ⟨f a, ?_, by simpa using he⟩
  have h1 : (l.take i)[j]? = some a := by rw [List.getElem?_take, if_pos hji]; exact ha
  exact List.mem_map_of_mem (List.mem_of_getElem? h1)
def inI (i : Int) (n : Nat) : Bool := decide (0 ≤ i) && decide (i < (n : Int))
def markErr (prev : List MarkL) (m : MarkL) : Int :=
  if nameOk m.name = false then 5 else if twN (prev.map MarkL.name) m.name = true then 6 else if m.x.ok = false then 3 else if m.y.ok = false then 3 else 0
def bodyErr (prev : List BodyL) (b : BodyL) : Int :=
  if nameOk b.name = false then 5 else if twN (prev.map BodyL.name) b.name = true then 6 else if 8 < b.pts.length then 4 else errs markErr [] b.pts
def ptsAt (L : LinkL) (i : Int) : List MarkL := match L.bodies[i.toNat]? with | some b => b.pts | none => []
def placeEq (l : List MarkL) (i j : Int) : Bool := match l[i.toNat]?, l[j.toNat]? with | some p, some q => decide (p.x.q = q.x.q) && decide (p.y.q = q.y.q) | _, _ => false
def jointE (L : LinkL) (j : JointL) : Int :=
  if j.kind ≠ 0 ∧ j.kind ≠ 1 then 7 else if inI j.a L.bodies.length = false then 9 else if inI j.b L.bodies.length = false then 9 else if j.a = j.b then 13
  else if inI j.point (ptsAt L j.a).length = false then 9 else if inI j.on (ptsAt L j.b).length = false then 9
  else if j.kind = 0 then (if j.to_ = 0 then 0 else 2) else if inI j.to_ (ptsAt L j.b).length = false then 9 else if placeEq (ptsAt L j.b) j.on j.to_ = true then 8 else 0
def jointErr (L : LinkL) (prev : List JointL) (j : JointL) : Int :=
  if nameOk j.name = false then 5 else if twN (prev.map JointL.name) j.name = true then 6 else jointE L j
def driverErr (n : Nat) (prev : List DriverL) (d : DriverL) : Int :=
  if nameOk d.name = false then 5 else if twN (prev.map DriverL.name) d.name = true then 6 else if inI d.body n = false then 9 else if d.body = 0 then 7
  else if (prev.any fun p => p.body == d.body) = true then 6 else 0
def lkErr (L : LinkL) : Int :=
  if nameOk L.name = false then 5 else if L.bodies.length = 0 then 10 else if 8 < L.bodies.length then 4 else if errs bodyErr [] L.bodies ≠ 0 then errs bodyErr [] L.bodies
  else if 16 < L.joints.length then 4 else if errs (jointErr L) [] L.joints ≠ 0 then errs (jointErr L) [] L.joints
  else if 2 < L.drivers.length then 4 else errs (driverErr L.bodies.length) [] L.drivers
end Go.Proofs.YtckjakojllcdoaaGreatDoor

/- Walks: the texts of fractions. -/
namespace Go.Proofs.YtckjakojllcdoaaGreatDoor
open Go Go.RowKit Bn
attribute [local go_sem ↓] Go.wp_at_zero Go.wp_at_succ
theorem itoa_le {z : Int} {k K : Nat} (h : z.natAbs < 4294967296 ^ k) (hk : k ≤ K) (h0 : 0 < K) : (Lib.itoa z).length ≤ 10 * K + 1 := by
  have h2 : Lib.nDigits z.natAbs ≤ 10 * K := nDig_words' hk h0 h
  rw [itoa_abs, List.length_append, Lib.decDigits_length]
  split <;> simp <;> omega
theorem cat_slash (X Y : List UInt8) : ((⟨X.toArray⟩ : ByteArray) ++ ⟨#[47]⟩) ++ ⟨Y.toArray⟩ = ⟨(X ++ 47 :: Y).toArray⟩ := by
  rw [show (⟨#[47]⟩ : ByteArray) = ⟨[47].toArray⟩ from rfl, cat_v, cat_v, List.append_assoc]; rfl
theorem ratText_1 {q : Rat} (h : q.den = 1) : ratText q = Lib.itoa q.num := if_pos h
theorem ratText_2 {q : Rat} (h : q.den ≠ 1) : ratText q = Lib.itoa q.num ++ 47 :: Lib.itoa (q.den : Int) := if_neg h
theorem r01_cmp_v (w : World) (b : Bool) (A : Option Addr) (n c : Nat) (z : Int) (k : Nat) (h : IZ w b A n c z k) (b' : Bool) (A' : Option Addr) (n' c' : Nat) (z' : Int) (k' : Nat) (h' : IZ w b' A' n' c' z' k') (v : Int) (hv : cmpI z z' = v) (hk : k + k' ≤ 999999999) : Calls Tryz.prog 54 #[.agg #[.bool b, .slice A n c], .agg #[.bool b', .slice A' n' c']] w (RetV w (.int .i64 v)) := by
  subst hv; exact r01_cmp w b A n c z k h b' A' n' c' z' k' h' hk
theorem cmpI_ne {x y : Int} (h : x ≠ y) : cmpI x y ≠ 0 := by
  unfold cmpI; (repeat' split) <;> omega
theorem cmpI_one : cmpI 1 1 = 0 := by decide
theorem f_text_1 (w : World) (b : Bool) (A : Option Addr) (n c : Nat) (D : Option Addr) (m e : Nat) (q : Rat) (k : Nat) (h : QZ w b A n c D m e q k) (h0 : 0 < k) (hk : k ≤ 40000000) (htab : Tab w) (hd : q.den = 1) :
    Calls Tryz.prog 30 #[.agg #[.bool b, .slice A n c, .slice D m e]] w (RetV w (strV (ratText q))) := by
  rw [ratText_1 hd]
  have HC := Lib.hid (show cmpI (q.den : Int) 1 = 0 by rw [hd]; exact cmpI_one)
  clear hd
  go_enter Tryz.func30, Tryz.ntmps30
  go_wp2_with fail
  (with_reducible refine (f_parts _ b A n c D m e (q) (k) ?_ ?_ ?_).mono ?_); (exact (h.belw ((Below.refl _ _).alloc (Nat.le_refl _) _))); (first | omega | decide | assumption); (first | omega | decide | assumption); rintro e w1 ⟨b1, A1, n1, c1, b'1, A'1, n'1, c'1, rfl, h1, h'1, hb1⟩
  have q1 := ((Below.refl _ _).alloc (Nat.le_refl _) _).trans (hb1.mono (by simp))
  replace h := h.belw q1
  have x1a : Blk w1 w.heap.size 41 #[.bool b, .slice A n c, .slice D m e] := (blkAt _ _ _ (by simp)).below hb1 (by simp)
  have bw1 := (brefl w).trans (q1.mono (brefl w).size)
  have lw1 : w.heap.size + 1 ≤ w1.heap.size := by have := hb1.size; simp at this; omega
  clear q1
  go_wp2_with fail
  have p2 := (((Kp.refl w1).alloc (.cells #[.bool b1, .slice A1 n1 c1] 82)).alloc (.cells #[.bool b'1, .slice A'1 n'1 c'1] 82))
  have bw2 := ((bw1.alloc (by first | omega | (simp <;> omega)) (.cells #[.bool b1, .slice A1 n1 c1] 82)).alloc (by first | omega | (simp <;> omega)) (.cells #[.bool b'1, .slice A'1 n'1 c'1] 82))
  have x2a : Blk ((w1.alloc (.cells #[.bool b1, .slice A1 n1 c1] 82)).alloc (.cells #[.bool b'1, .slice A'1 n'1 c'1] 82)) w1.heap.size 82 #[.bool b1, .slice A1 n1 c1] := ((blkAt _ _ _ (by simp)).alloc (.cells #[.bool b'1, .slice A'1 n'1 c'1] 82))
  have x2b : Blk ((w1.alloc (.cells #[.bool b1, .slice A1 n1 c1] 82)).alloc (.cells #[.bool b'1, .slice A'1 n'1 c'1] 82)) (w1.heap.size + 1) 82 #[.bool b'1, .slice A'1 n'1 c'1] := (blkAt _ _ _ (by simp))
  replace x1a := ((x1a.alloc (.cells #[.bool b1, .slice A1 n1 c1] 82)).alloc (.cells #[.bool b'1, .slice A'1 n'1 c'1] 82))
  have lw2 : w1.heap.size + 2 ≤ ((w1.alloc (.cells #[.bool b1, .slice A1 n1 c1] 82)).alloc (.cells #[.bool b'1, .slice A'1 n'1 c'1] 82)).heap.size := by simp
  generalize hE2 : ((w1.alloc (.cells #[.bool b1, .slice A1 n1 c1] 82)).alloc (.cells #[.bool b'1, .slice A'1 n'1 c'1] 82)) = w2 at p2 bw2 lw2 x2a x2b x1a ⊢
  clear hE2
  replace h := h.keep p2
  replace h1 := h1.keep p2
  replace h'1 := h'1.keep p2
  clear bw1
  obtain ⟨lx1aa, lx1ab, lx1ac, lx1ad⟩ := lts0 x1a.lt
  obtain ⟨lx2aa, lx2ab, lx2ac, lx2ad⟩ := lts0 x2a.lt
  obtain ⟨cx2ba, cx2bb⟩ := x2b.c2
  obtain ⟨lx2ba, lx2bb, lx2bc, lx2bd⟩ := lts1 x2b.lt
  go_region_held3 (fun w' => Sees w2.heap.size w2 w') (first | with_reducible exact Sees.of (Nat.le_refl _) (by assumption) | with_reducible exact Sees.of (Nat.le_refl _) (brefl _).drew | exact Sees.of (Nat.le_refl _) (below_drewN (brefl _) 1) | exact Sees.of (Nat.le_refl _) (below_drewN (by assumption) _))
    (first
      | (go_at_call 51; (with_reducible refine (f_one _).mono ?_); rintro e w3 ⟨b3, A3, n3, c3, rfl, h3, hb3⟩; replace hb3 := bnext (below_drewN (brefl _) 1) hb3; have q3 : Below w2.heap.size w2 w3 := bnext (brefl w2) hb3; replace h := h.belw hb3; replace h1 := h1.belw hb3; replace h'1 := h'1.belw hb3)
      | (go_at_call 50; (with_reducible refine (i_cmp_w _ b'1 A'1 n'1 c'1 (((q).den : Int)) ((k)) ?_ b3 A3 n3 c3 (1) (1) ?_ 0 HC.out ?_).mono ?_); (exact h'1.iz); (exact h3.iz); (first | omega | decide | assumption); rintro e w4 ⟨rfl, hb4⟩; have q4 : Below w2.heap.size w2 w4 := bnext q3 hb4; replace h := h.belw hb4; replace h1 := h1.belw hb4; replace h'1 := h'1.belw hb4; replace h3 := h3.belw hb4))
  have bw4 := bw2.trans (q4.mono bw2.size)
  clear lx1aa lx1ab lx1ac lx1ad lx2aa lx2ab lx2ac lx2ad cx2ba cx2bb lx2ba lx2bb lx2bc lx2bd
  replace x1a := x1a.b q4
  replace x2a := x2a.b q4
  replace x2b := x2b.b q4
  have lw4 := q4.size
  obtain ⟨cx2aa, cx2ab⟩ := x2a.c2
  obtain ⟨lx2aa, lx2ab, lx2ac, lx2ad⟩ := lts0 x2a.lt
  go_wp2_with fail
  (with_reducible refine (i_text_l _ b1 A1 n1 c1 ((q).num) ((k)) ?_ (Lib.itoa q.num) ?_ ?_ ?_).mono ?_); (exact h1.iz); (first | omega | decide | assumption); (first | exact htab.belw bw4 | exact (htab.belw bw4).belw (below_drewN (brefl _) 1) | exact (htab.belw bw4).belw (brefl _).drew | exact (htab.belw bw4).belw (by assumption) | fail); (exact rfl); rintro e w5 ⟨rfl, q5⟩
  clear cx2aa cx2ab lx2aa lx2ab lx2ac lx2ad
  replace h := h.belw q5
  replace h1 := h1.belw q5
  replace h'1 := h'1.belw q5
  replace h3 := h3.belw q5
  replace x1a := x1a.b q5
  replace x2a := x2a.b q5
  replace x2b := x2b.b q5
  have bw5 := bw4.trans (q5.mono bw4.size)
  have lw5 := q5.size
  clear q5 bw4
  go_wp2_with fail
  go_ret
  exact ⟨rfl, bw5⟩
theorem f_text_2 (w : World) (b : Bool) (A : Option Addr) (n c : Nat) (D : Option Addr) (m e : Nat) (q : Rat) (k : Nat) (h : QZ w b A n c D m e q k) (h0 : 0 < k) (hk : k ≤ 40000000) (htab : Tab w) (hd : q.den ≠ 1) :
    Calls Tryz.prog 30 #[.agg #[.bool b, .slice A n c, .slice D m e]] w (RetV w (strV (ratText q))) := by
  rw [ratText_2 hd]
  obtain ⟨u, hu⟩ : ∃ u, cmpI (q.den : Int) 1 = u := ⟨_, rfl⟩
  have hu0 : u ≠ 0 := by rw [← hu]; exact cmpI_ne (by omega)
  have e0 : ((u : Int) == 0) = false := by simp; exact hu0
  have HC := Lib.hid hu
  obtain ⟨X, hX⟩ : ∃ X, Lib.itoa q.num = X := ⟨_, rfl⟩
  obtain ⟨Y, hY⟩ : ∃ Y, Lib.itoa (q.den : Int) = Y := ⟨_, rfl⟩
  have hs := h.sz h0
  have hx1 : (⟨X.toArray⟩ : ByteArray).size ≤ 1000000000 := by show X.length ≤ _; rw [← hX]; have := itoa_le hs.1 hk (by omega); omega
  have hy1 : (⟨Y.toArray⟩ : ByteArray).size ≤ 1000000000 := by show Y.length ≤ _; rw [← hY]; have := itoa_le (z := (q.den : Int)) (by simpa using hs.2) hk (by omega); omega
  obtain ⟨N, hN⟩ : ∃ N, (⟨X.toArray⟩ : ByteArray).size = N := ⟨_, rfl⟩
  obtain ⟨M, hM⟩ : ∃ M, (⟨Y.toArray⟩ : ByteArray).size = M := ⟨_, rfl⟩
  rw [hN] at hx1
  rw [hM] at hy1
  have hc1 : (9223372036854775807 < N + 1) = False := by simp; omega
  have hc2 : (9223372036854775807 ≤ N) = False := by simp; omega
  have hc3 : (9223372036854775807 < N + 1 + M) = False := by simp; omega
  rw [hX, hY]
  have HX := Lib.hid hX
  have HY := Lib.hid hY
  clear hd hu hu0 hX hY hs
  go_enter Tryz.func30, Tryz.ntmps30
  go_wp2_with fail
  (with_reducible refine (f_parts _ b A n c D m e (q) (k) ?_ ?_ ?_).mono ?_); (exact (h.belw ((Below.refl _ _).alloc (Nat.le_refl _) _))); (first | omega | decide | assumption); (first | omega | decide | assumption); rintro e w1 ⟨b1, A1, n1, c1, b'1, A'1, n'1, c'1, rfl, h1, h'1, hb1⟩
  have q1 := ((Below.refl _ _).alloc (Nat.le_refl _) _).trans (hb1.mono (by simp))
  replace h := h.belw q1
  have x1a : Blk w1 w.heap.size 41 #[.bool b, .slice A n c, .slice D m e] := (blkAt _ _ _ (by simp)).below hb1 (by simp)
  have bw1 := (brefl w).trans (q1.mono (brefl w).size)
  have lw1 : w.heap.size + 1 ≤ w1.heap.size := by have := hb1.size; simp at this; omega
  clear q1
  go_wp2_with fail
  have p2 := (((Kp.refl w1).alloc (.cells #[.bool b1, .slice A1 n1 c1] 82)).alloc (.cells #[.bool b'1, .slice A'1 n'1 c'1] 82))
  have bw2 := ((bw1.alloc (by first | omega | (simp <;> omega)) (.cells #[.bool b1, .slice A1 n1 c1] 82)).alloc (by first | omega | (simp <;> omega)) (.cells #[.bool b'1, .slice A'1 n'1 c'1] 82))
  have x2a : Blk ((w1.alloc (.cells #[.bool b1, .slice A1 n1 c1] 82)).alloc (.cells #[.bool b'1, .slice A'1 n'1 c'1] 82)) w1.heap.size 82 #[.bool b1, .slice A1 n1 c1] := ((blkAt _ _ _ (by simp)).alloc (.cells #[.bool b'1, .slice A'1 n'1 c'1] 82))
  have x2b : Blk ((w1.alloc (.cells #[.bool b1, .slice A1 n1 c1] 82)).alloc (.cells #[.bool b'1, .slice A'1 n'1 c'1] 82)) (w1.heap.size + 1) 82 #[.bool b'1, .slice A'1 n'1 c'1] := (blkAt _ _ _ (by simp))
  replace x1a := ((x1a.alloc (.cells #[.bool b1, .slice A1 n1 c1] 82)).alloc (.cells #[.bool b'1, .slice A'1 n'1 c'1] 82))
  have lw2 : w1.heap.size + 2 ≤ ((w1.alloc (.cells #[.bool b1, .slice A1 n1 c1] 82)).alloc (.cells #[.bool b'1, .slice A'1 n'1 c'1] 82)).heap.size := by simp
  generalize hE2 : ((w1.alloc (.cells #[.bool b1, .slice A1 n1 c1] 82)).alloc (.cells #[.bool b'1, .slice A'1 n'1 c'1] 82)) = w2 at p2 bw2 lw2 x2a x2b x1a ⊢
  clear hE2
  replace h := h.keep p2
  replace h1 := h1.keep p2
  replace h'1 := h'1.keep p2
  clear bw1
  obtain ⟨lx1aa, lx1ab, lx1ac, lx1ad⟩ := lts0 x1a.lt
  obtain ⟨lx2aa, lx2ab, lx2ac, lx2ad⟩ := lts0 x2a.lt
  obtain ⟨cx2ba, cx2bb⟩ := x2b.c2
  obtain ⟨lx2ba, lx2bb, lx2bc, lx2bd⟩ := lts1 x2b.lt
  go_region_held3 (fun w' => Sees w2.heap.size w2 w') (first | with_reducible exact Sees.of (Nat.le_refl _) (by assumption) | with_reducible exact Sees.of (Nat.le_refl _) (brefl _).drew | exact Sees.of (Nat.le_refl _) (below_drewN (brefl _) 1) | exact Sees.of (Nat.le_refl _) (below_drewN (by assumption) _))
    (first
      | (go_at_call 51; (with_reducible refine (f_one _).mono ?_); rintro e w3 ⟨b3, A3, n3, c3, rfl, h3, hb3⟩; replace hb3 := bnext (below_drewN (brefl _) 1) hb3; have q3 : Below w2.heap.size w2 w3 := bnext (brefl w2) hb3; replace h := h.belw hb3; replace h1 := h1.belw hb3; replace h'1 := h'1.belw hb3)
      | (go_at_call 50; (with_reducible refine (i_cmp_w _ b'1 A'1 n'1 c'1 (((q).den : Int)) ((k)) ?_ b3 A3 n3 c3 (1) (1) ?_ u HC.out ?_).mono ?_); (exact h'1.iz); (exact h3.iz); (first | omega | decide | assumption); rintro e w4 ⟨rfl, hb4⟩; have q4 : Below w2.heap.size w2 w4 := bnext q3 hb4; replace h := h.belw hb4; replace h1 := h1.belw hb4; replace h'1 := h'1.belw hb4; replace h3 := h3.belw hb4))
  have bw4 := bw2.trans (q4.mono bw2.size)
  clear lx1aa lx1ab lx1ac lx1ad lx2aa lx2ab lx2ac lx2ad cx2ba cx2bb lx2ba lx2bb lx2bc lx2bd
  replace x1a := x1a.b q4
  replace x2a := x2a.b q4
  replace x2b := x2b.b q4
  have lw4 := q4.size
  obtain ⟨lx1aa, lx1ab, lx1ac, lx1ad⟩ := lts0 x1a.lt
  obtain ⟨cx2aa, cx2ab⟩ := x2a.c2
  obtain ⟨lx2aa, lx2ab, lx2ac, lx2ad⟩ := lts0 x2a.lt
  obtain ⟨cx2ba, cx2bb⟩ := x2b.c2
  obtain ⟨lx2ba, lx2bb, lx2bc, lx2bd⟩ := lts1 x2b.lt
  go_wp2_with fail
  go_region_held3 (fun w' => Sees w4.heap.size w4 w') (first | with_reducible exact Sees.of (Nat.le_refl _) (by assumption) | with_reducible exact Sees.of (Nat.le_refl _) (brefl _).drew | exact Sees.of (Nat.le_refl _) (below_drewN (brefl _) 1) | exact Sees.of (Nat.le_refl _) (below_drewN (by assumption) _))
    (first
      | (go_at_call 52; (with_reducible refine (i_text_l _ b1 A1 n1 c1 ((q).num) ((k)) ?_ X ?_ ?_ ?_).mono ?_); (exact h1.iz); (first | omega | decide | assumption); (first | exact htab.belw bw4 | exact (htab.belw bw4).belw (below_drewN (brefl _) 1) | exact (htab.belw bw4).belw (brefl _).drew | exact (htab.belw bw4).belw (by assumption) | fail); (exact HX.out); rintro e w5 ⟨rfl, hb5⟩; replace hb5 := bnext (below_drewN (brefl _) 1) hb5; have q5 : Below w4.heap.size w4 w5 := bnext (brefl w4) hb5; replace h := h.belw hb5; replace h1 := h1.belw hb5; replace h'1 := h'1.belw hb5; replace h3 := h3.belw hb5)
      | (go_at_call 52; (with_reducible refine (i_text_l _ b'1 A'1 n'1 c'1 (((q).den : Int)) ((k)) ?_ Y ?_ ?_ ?_).mono ?_); (exact h'1.iz); (first | omega | decide | assumption); (first | exact htab.belw bw4 | exact (htab.belw bw4).belw (below_drewN (brefl _) 1) | exact (htab.belw bw4).belw (brefl _).drew | exact (htab.belw bw4).belw (by assumption) | fail); (exact HY.out); rintro e w6 ⟨rfl, hb6⟩; have q6 : Below w4.heap.size w4 w6 := bnext q5 hb6; replace h := h.belw hb6; replace h1 := h1.belw hb6; replace h'1 := h'1.belw hb6; replace h3 := h3.belw hb6))
  have bw6 := bw4.trans (q6.mono bw4.size)
  clear lx1aa lx1ab lx1ac lx1ad cx2aa cx2ab lx2aa lx2ab lx2ac lx2ad cx2ba cx2bb lx2ba lx2bb lx2bc lx2bd
  replace x1a := x1a.b q6
  replace x2a := x2a.b q6
  replace x2b := x2b.b q6
  have lw6 := q6.size
  go_wp2_with fail
  go_ret
  refine ⟨?_, bw6⟩
  exact congrArg (fun x => Ending.returned (.string x)) (cat_slash X Y)
theorem f_text (w : World) (b : Bool) (A : Option Addr) (n c : Nat) (D : Option Addr) (m e : Nat) (q : Rat) (k : Nat) (h : QZ w b A n c D m e q k) (h0 : 0 < k) (hk : k ≤ 40000000) (htab : Tab w) (T : List UInt8) (hT : ratText q = T) : Calls Tryz.prog 30 #[.agg #[.bool b, .slice A n c, .slice D m e]] w (RetV w (strV T)) := by
  subst hT
  by_cases hd : q.den = 1
  · exact f_text_1 w b A n c D m e q k h h0 hk htab hd
  · exact f_text_2 w b A n c D m e q k h h0 hk htab hd
theorem g_text_1 (w : World) (b : Bool) (A : Option Addr) (n c : Nat) (D : Option Addr) (m e : Nat) (q : Rat) (k : Nat) (h : QZ w b A n c D m e q k) (h0 : 0 < k) (hk : k ≤ 40000000) (hd : q.den = 1) :
    Calls Tryz.prog 31 #[.agg #[.bool b, .slice A n c, .slice D m e]] w (RetV w (strV (ratText q))) := by
  rw [ratText_1 hd]
  have HC := Lib.hid (show cmpI (q.den : Int) 1 = 0 by rw [hd]; exact cmpI_one)
  clear hd
  go_enter Tryz.func31, Tryz.ntmps31
  go_wp2_with fail
  (with_reducible refine (g_parts _ b A n c D m e (q) (k) ?_ ?_ ?_).mono ?_); (exact (h.belw ((Below.refl _ _).alloc (Nat.le_refl _) _))); (first | omega | decide | assumption); (first | omega | decide | assumption); rintro e w1 ⟨b1, A1, n1, c1, b'1, A'1, n'1, c'1, rfl, h1, h'1, hb1⟩
  have q1 := ((Below.refl _ _).alloc (Nat.le_refl _) _).trans (hb1.mono (by simp))
  replace h := h.belw q1
  have x1a : Blk w1 w.heap.size 41 #[.bool b, .slice A n c, .slice D m e] := (blkAt _ _ _ (by simp)).below hb1 (by simp)
  have bw1 := (brefl w).trans (q1.mono (brefl w).size)
  have lw1 : w.heap.size + 1 ≤ w1.heap.size := by have := hb1.size; simp at this; omega
  clear q1
  go_wp2_with fail
  have p2 := (((Kp.refl w1).alloc (.cells #[.bool b1, .slice A1 n1 c1] 82)).alloc (.cells #[.bool b'1, .slice A'1 n'1 c'1] 82))
  have bw2 := ((bw1.alloc (by first | omega | (simp <;> omega)) (.cells #[.bool b1, .slice A1 n1 c1] 82)).alloc (by first | omega | (simp <;> omega)) (.cells #[.bool b'1, .slice A'1 n'1 c'1] 82))
  have x2a : Blk ((w1.alloc (.cells #[.bool b1, .slice A1 n1 c1] 82)).alloc (.cells #[.bool b'1, .slice A'1 n'1 c'1] 82)) w1.heap.size 82 #[.bool b1, .slice A1 n1 c1] := ((blkAt _ _ _ (by simp)).alloc (.cells #[.bool b'1, .slice A'1 n'1 c'1] 82))
  have x2b : Blk ((w1.alloc (.cells #[.bool b1, .slice A1 n1 c1] 82)).alloc (.cells #[.bool b'1, .slice A'1 n'1 c'1] 82)) (w1.heap.size + 1) 82 #[.bool b'1, .slice A'1 n'1 c'1] := (blkAt _ _ _ (by simp))
  replace x1a := ((x1a.alloc (.cells #[.bool b1, .slice A1 n1 c1] 82)).alloc (.cells #[.bool b'1, .slice A'1 n'1 c'1] 82))
  have lw2 : w1.heap.size + 2 ≤ ((w1.alloc (.cells #[.bool b1, .slice A1 n1 c1] 82)).alloc (.cells #[.bool b'1, .slice A'1 n'1 c'1] 82)).heap.size := by simp
  generalize hE2 : ((w1.alloc (.cells #[.bool b1, .slice A1 n1 c1] 82)).alloc (.cells #[.bool b'1, .slice A'1 n'1 c'1] 82)) = w2 at p2 bw2 lw2 x2a x2b x1a ⊢
  clear hE2
  replace h := h.keep p2
  replace h1 := h1.keep p2
  replace h'1 := h'1.keep p2
  clear bw1
  obtain ⟨lx1aa, lx1ab, lx1ac, lx1ad⟩ := lts0 x1a.lt
  obtain ⟨lx2aa, lx2ab, lx2ac, lx2ad⟩ := lts0 x2a.lt
  obtain ⟨cx2ba, cx2bb⟩ := x2b.c2
  obtain ⟨lx2ba, lx2bb, lx2bc, lx2bd⟩ := lts1 x2b.lt
  go_region_held3 (fun w' => Sees w2.heap.size w2 w') (first | with_reducible exact Sees.of (Nat.le_refl _) (by assumption) | with_reducible exact Sees.of (Nat.le_refl _) (brefl _).drew | exact Sees.of (Nat.le_refl _) (below_drewN (brefl _) 1) | exact Sees.of (Nat.le_refl _) (below_drewN (by assumption) _))
    (first
      | (go_at_call 55; (with_reducible refine (g_one _).mono ?_); rintro e w3 ⟨b3, A3, n3, c3, rfl, h3, hb3⟩; replace hb3 := bnext (below_drewN (brefl _) 1) hb3; have q3 : Below w2.heap.size w2 w3 := bnext (brefl w2) hb3; replace h := h.belw hb3; replace h1 := h1.belw hb3; replace h'1 := h'1.belw hb3)
      | (go_at_call 54; (with_reducible refine (r01_cmp_v _ b'1 A'1 n'1 c'1 (((q).den : Int)) ((k)) ?_ b3 A3 n3 c3 (1) (1) ?_ 0 HC.out ?_).mono ?_); (exact h'1.iz); (exact h3.iz); (first | omega | decide | assumption); rintro e w4 ⟨rfl, hb4⟩; have q4 : Below w2.heap.size w2 w4 := bnext q3 hb4; replace h := h.belw hb4; replace h1 := h1.belw hb4; replace h'1 := h'1.belw hb4; replace h3 := h3.belw hb4))
  have bw4 := bw2.trans (q4.mono bw2.size)
  clear lx1aa lx1ab lx1ac lx1ad lx2aa lx2ab lx2ac lx2ad cx2ba cx2bb lx2ba lx2bb lx2bc lx2bd
  replace x1a := x1a.b q4
  replace x2a := x2a.b q4
  replace x2b := x2b.b q4
  have lw4 := q4.size
  obtain ⟨cx2aa, cx2ab⟩ := x2a.c2
  obtain ⟨lx2aa, lx2ab, lx2ac, lx2ad⟩ := lts0 x2a.lt
  go_wp2_with fail
  (with_reducible refine (r01_text_l _ b1 A1 n1 c1 ((q).num) ((k)) ?_ (Lib.itoa q.num) ?_ ?_).mono ?_); (exact h1.iz); (first | omega | decide | assumption); (exact rfl); rintro e w5 ⟨rfl, q5⟩
  clear cx2aa cx2ab lx2aa lx2ab lx2ac lx2ad
  replace h := h.belw q5
  replace h1 := h1.belw q5
  replace h'1 := h'1.belw q5
  replace h3 := h3.belw q5
  replace x1a := x1a.b q5
  replace x2a := x2a.b q5
  replace x2b := x2b.b q5
  have bw5 := bw4.trans (q5.mono bw4.size)
  have lw5 := q5.size
  clear q5 bw4
  go_wp2_with fail
  go_ret
  exact ⟨rfl, bw5⟩
theorem g_text_2 (w : World) (b : Bool) (A : Option Addr) (n c : Nat) (D : Option Addr) (m e : Nat) (q : Rat) (k : Nat) (h : QZ w b A n c D m e q k) (h0 : 0 < k) (hk : k ≤ 40000000) (hd : q.den ≠ 1) :
    Calls Tryz.prog 31 #[.agg #[.bool b, .slice A n c, .slice D m e]] w (RetV w (strV (ratText q))) := by
  rw [ratText_2 hd]
  obtain ⟨u, hu⟩ : ∃ u, cmpI (q.den : Int) 1 = u := ⟨_, rfl⟩
  have hu0 : u ≠ 0 := by rw [← hu]; exact cmpI_ne (by omega)
  have e0 : ((u : Int) == 0) = false := by simp; exact hu0
  have HC := Lib.hid hu
  obtain ⟨X, hX⟩ : ∃ X, Lib.itoa q.num = X := ⟨_, rfl⟩
  obtain ⟨Y, hY⟩ : ∃ Y, Lib.itoa (q.den : Int) = Y := ⟨_, rfl⟩
  have hs := h.sz h0
  have hx1 : (⟨X.toArray⟩ : ByteArray).size ≤ 1000000000 := by show X.length ≤ _; rw [← hX]; have := itoa_le hs.1 hk (by omega); omega
  have hy1 : (⟨Y.toArray⟩ : ByteArray).size ≤ 1000000000 := by show Y.length ≤ _; rw [← hY]; have := itoa_le (z := (q.den : Int)) (by simpa using hs.2) hk (by omega); omega
  obtain ⟨N, hN⟩ : ∃ N, (⟨X.toArray⟩ : ByteArray).size = N := ⟨_, rfl⟩
  obtain ⟨M, hM⟩ : ∃ M, (⟨Y.toArray⟩ : ByteArray).size = M := ⟨_, rfl⟩
  rw [hN] at hx1
  rw [hM] at hy1
  have hc1 : (9223372036854775807 < N + 1) = False := by simp; omega
  have hc2 : (9223372036854775807 ≤ N) = False := by simp; omega
  have hc3 : (9223372036854775807 < N + 1 + M) = False := by simp; omega
  rw [hX, hY]
  have HX := Lib.hid hX
  have HY := Lib.hid hY
  clear hd hu hu0 hX hY hs
  go_enter Tryz.func31, Tryz.ntmps31
  go_wp2_with fail
  (with_reducible refine (g_parts _ b A n c D m e (q) (k) ?_ ?_ ?_).mono ?_); (exact (h.belw ((Below.refl _ _).alloc (Nat.le_refl _) _))); (first | omega | decide | assumption); (first | omega | decide | assumption); rintro e w1 ⟨b1, A1, n1, c1, b'1, A'1, n'1, c'1, rfl, h1, h'1, hb1⟩
  have q1 := ((Below.refl _ _).alloc (Nat.le_refl _) _).trans (hb1.mono (by simp))
  replace h := h.belw q1
  have x1a : Blk w1 w.heap.size 41 #[.bool b, .slice A n c, .slice D m e] := (blkAt _ _ _ (by simp)).below hb1 (by simp)
  have bw1 := (brefl w).trans (q1.mono (brefl w).size)
  have lw1 : w.heap.size + 1 ≤ w1.heap.size := by have := hb1.size; simp at this; omega
  clear q1
  go_wp2_with fail
  have p2 := (((Kp.refl w1).alloc (.cells #[.bool b1, .slice A1 n1 c1] 82)).alloc (.cells #[.bool b'1, .slice A'1 n'1 c'1] 82))
  have bw2 := ((bw1.alloc (by first | omega | (simp <;> omega)) (.cells #[.bool b1, .slice A1 n1 c1] 82)).alloc (by first | omega | (simp <;> omega)) (.cells #[.bool b'1, .slice A'1 n'1 c'1] 82))
  have x2a : Blk ((w1.alloc (.cells #[.bool b1, .slice A1 n1 c1] 82)).alloc (.cells #[.bool b'1, .slice A'1 n'1 c'1] 82)) w1.heap.size 82 #[.bool b1, .slice A1 n1 c1] := ((blkAt _ _ _ (by simp)).alloc (.cells #[.bool b'1, .slice A'1 n'1 c'1] 82))
  have x2b : Blk ((w1.alloc (.cells #[.bool b1, .slice A1 n1 c1] 82)).alloc (.cells #[.bool b'1, .slice A'1 n'1 c'1] 82)) (w1.heap.size + 1) 82 #[.bool b'1, .slice A'1 n'1 c'1] := (blkAt _ _ _ (by simp))
  replace x1a := ((x1a.alloc (.cells #[.bool b1, .slice A1 n1 c1] 82)).alloc (.cells #[.bool b'1, .slice A'1 n'1 c'1] 82))
  have lw2 : w1.heap.size + 2 ≤ ((w1.alloc (.cells #[.bool b1, .slice A1 n1 c1] 82)).alloc (.cells #[.bool b'1, .slice A'1 n'1 c'1] 82)).heap.size := by simp
  generalize hE2 : ((w1.alloc (.cells #[.bool b1, .slice A1 n1 c1] 82)).alloc (.cells #[.bool b'1, .slice A'1 n'1 c'1] 82)) = w2 at p2 bw2 lw2 x2a x2b x1a ⊢
  clear hE2
  replace h := h.keep p2
  replace h1 := h1.keep p2
  replace h'1 := h'1.keep p2
  clear bw1
  obtain ⟨lx1aa, lx1ab, lx1ac, lx1ad⟩ := lts0 x1a.lt
  obtain ⟨lx2aa, lx2ab, lx2ac, lx2ad⟩ := lts0 x2a.lt
  obtain ⟨cx2ba, cx2bb⟩ := x2b.c2
  obtain ⟨lx2ba, lx2bb, lx2bc, lx2bd⟩ := lts1 x2b.lt
  go_region_held3 (fun w' => Sees w2.heap.size w2 w') (first | with_reducible exact Sees.of (Nat.le_refl _) (by assumption) | with_reducible exact Sees.of (Nat.le_refl _) (brefl _).drew | exact Sees.of (Nat.le_refl _) (below_drewN (brefl _) 1) | exact Sees.of (Nat.le_refl _) (below_drewN (by assumption) _))
    (first
      | (go_at_call 55; (with_reducible refine (g_one _).mono ?_); rintro e w3 ⟨b3, A3, n3, c3, rfl, h3, hb3⟩; replace hb3 := bnext (below_drewN (brefl _) 1) hb3; have q3 : Below w2.heap.size w2 w3 := bnext (brefl w2) hb3; replace h := h.belw hb3; replace h1 := h1.belw hb3; replace h'1 := h'1.belw hb3)
      | (go_at_call 54; (with_reducible refine (r01_cmp_v _ b'1 A'1 n'1 c'1 (((q).den : Int)) ((k)) ?_ b3 A3 n3 c3 (1) (1) ?_ u HC.out ?_).mono ?_); (exact h'1.iz); (exact h3.iz); (first | omega | decide | assumption); rintro e w4 ⟨rfl, hb4⟩; have q4 : Below w2.heap.size w2 w4 := bnext q3 hb4; replace h := h.belw hb4; replace h1 := h1.belw hb4; replace h'1 := h'1.belw hb4; replace h3 := h3.belw hb4))
  have bw4 := bw2.trans (q4.mono bw2.size)
  clear lx1aa lx1ab lx1ac lx1ad lx2aa lx2ab lx2ac lx2ad cx2ba cx2bb lx2ba lx2bb lx2bc lx2bd
  replace x1a := x1a.b q4
  replace x2a := x2a.b q4
  replace x2b := x2b.b q4
  have lw4 := q4.size
  obtain ⟨lx1aa, lx1ab, lx1ac, lx1ad⟩ := lts0 x1a.lt
  obtain ⟨cx2aa, cx2ab⟩ := x2a.c2
  obtain ⟨lx2aa, lx2ab, lx2ac, lx2ad⟩ := lts0 x2a.lt
  obtain ⟨cx2ba, cx2bb⟩ := x2b.c2
  obtain ⟨lx2ba, lx2bb, lx2bc, lx2bd⟩ := lts1 x2b.lt
  go_wp2_with fail
  go_region_held3 (fun w' => Sees w4.heap.size w4 w') (first | with_reducible exact Sees.of (Nat.le_refl _) (by assumption) | with_reducible exact Sees.of (Nat.le_refl _) (brefl _).drew | exact Sees.of (Nat.le_refl _) (below_drewN (brefl _) 1) | exact Sees.of (Nat.le_refl _) (below_drewN (by assumption) _))
    (first
      | (go_at_call 56; (with_reducible refine (r01_text_l _ b1 A1 n1 c1 ((q).num) ((k)) ?_ X ?_ ?_).mono ?_); (exact h1.iz); (first | omega | decide | assumption); (exact HX.out); rintro e w5 ⟨rfl, hb5⟩; replace hb5 := bnext (below_drewN (brefl _) 1) hb5; have q5 : Below w4.heap.size w4 w5 := bnext (brefl w4) hb5; replace h := h.belw hb5; replace h1 := h1.belw hb5; replace h'1 := h'1.belw hb5; replace h3 := h3.belw hb5)
      | (go_at_call 56; (with_reducible refine (r01_text_l _ b'1 A'1 n'1 c'1 (((q).den : Int)) ((k)) ?_ Y ?_ ?_).mono ?_); (exact h'1.iz); (first | omega | decide | assumption); (exact HY.out); rintro e w6 ⟨rfl, hb6⟩; have q6 : Below w4.heap.size w4 w6 := bnext q5 hb6; replace h := h.belw hb6; replace h1 := h1.belw hb6; replace h'1 := h'1.belw hb6; replace h3 := h3.belw hb6))
  have bw6 := bw4.trans (q6.mono bw4.size)
  clear lx1aa lx1ab lx1ac lx1ad cx2aa cx2ab lx2aa lx2ab lx2ac lx2ad cx2ba cx2bb lx2ba lx2bb lx2bc lx2bd
  replace x1a := x1a.b q6
  replace x2a := x2a.b q6
  replace x2b := x2b.b q6
  have lw6 := q6.size
  go_wp2_with fail
  go_ret
  refine ⟨?_, bw6⟩
  exact congrArg (fun x => Ending.returned (.string x)) (cat_slash X Y)
theorem g_text (w : World) (b : Bool) (A : Option Addr) (n c : Nat) (D : Option Addr) (m e : Nat) (q : Rat) (k : Nat) (h : QZ w b A n c D m e q k) (h0 : 0 < k) (hk : k ≤ 40000000) (T : List UInt8) (hT : ratText q = T) : Calls Tryz.prog 31 #[.agg #[.bool b, .slice A n c, .slice D m e]] w (RetV w (strV T)) := by
  subst hT
  by_cases hd : q.den = 1
  · exact g_text_1 w b A n c D m e q k h h0 hk hd
  · exact g_text_2 w b A n c D m e q k h h0 hk hd
end Go.Proofs.YtckjakojllcdoaaGreatDoor

/- Linkages: plain: texts. -/
namespace Go.Proofs.YtckjakojllcdoaaGreatDoor
open Go Go.RowKit Bn
def markText (m : MarkL) : List UInt8 := 32 :: (m.name ++ 32 :: (ratText m.x.q ++ 32 :: (ratText m.y.q ++ [59])))
def bodyText (b : BodyL) : List UInt8 := [98, 111, 100, 121, 32] ++ b.name ++ [32, 123] ++ b.pts.flatMap markText ++ [32, 125]
theorem ratText_le {q : Rat} {k : Nat} (hs : Sz q k) (hk : k ≤ 40) : (ratText q).length ≤ 1000 := by
  have h1 := itoa_le (z := q.num) (k := k) (K := 40) hs.1 hk (by decide)
  have h2 := itoa_le (z := (q.den : Int)) (k := k) (K := 40) (by simpa using hs.2) hk (by decide)
  by_cases h : q.den = 1
  · rw [ratText_1 h]; omega
  · rw [ratText_2 h, List.length_append, List.length_cons]; omega
def MkShort (m : MarkL) : Prop := m.name.length ≤ 1000 ∧ Sz m.x.q 40 ∧ Sz m.y.q 40
theorem markText_len {m : MarkL} (h : MkShort m) : (markText m).length ≤ 3010 := by
  have h1 := ratText_le h.2.1 (Nat.le_refl _)
  have h2 := ratText_le h.2.2 (Nat.le_refl _)
  have h3 := h.1
  unfold markText
  simp only [List.length_cons, List.length_append, List.length_nil]
  omega
theorem marks_len : ∀ {l : List MarkL}, (∀ m ∈ l, MkShort m) → (l.flatMap markText).length ≤ 3010 * l.length
  | [], _ => by simp
  | m :: l, h => by
    have h1 := markText_len (h m (by simp))
    have h2 := marks_len (l := l) (fun x hx => h x (by simp [hx]))
    simp only [List.flatMap_cons, List.length_append, List.length_cons]
    omega
theorem flat_step {α : Type} (f : α → List UInt8) {l : List α} {i : Nat} {a : α} (h : l[i]? = some a) : (l.take (i + 1)).flatMap f = (l.take i).flatMap f ++ f a := by
  rw [List.take_add_one, h]
  simp
theorem flat_len {α : Type} (f : α → List UInt8) : ∀ (l : List α) (i : Nat), ((l.take i).flatMap f).length ≤ (l.flatMap f).length
  | [], i => by simp
  | a :: l, 0 => by simp
  | a :: l, i + 1 => by
    have := flat_len f l i
    simp only [List.take_succ_cons, List.flatMap_cons, List.length_append]
    omega
end Go.Proofs.YtckjakojllcdoaaGreatDoor

/- Linkages in memory. -/
namespace Go.Proofs.YtckjakojllcdoaaGreatDoor
open Go Go.RowKit Bn
abbrev NmL (s : List UInt8) : Prop := s.length < 4611686018427387904
def RatAt (w : World) (g o : Nat) (r : RD) (k : Nat) : Prop := ∃ b A n c D m e, w.cell? ⟨g, o, none⟩ = some (.bool b) ∧ w.cell? ⟨g, o + 1, none⟩ = some (.slice A n c) ∧ w.cell? ⟨g, o + 2, none⟩ = some (.slice D m e) ∧ QD w b A n c D m e r k
def MkAt (k : Nat) (w : World) (g o : Nat) (m : MarkL) : Prop := w.cell? ⟨g, o, none⟩ = some (strV m.name) ∧ RatAt w g (o + 1) m.x k ∧ RatAt w g (o + 4) m.y k ∧ NmL m.name
def SlS {α : Type} (P : World → Nat → Nat → α → Prop) (s : Nat) (w : World) (A : Option Addr) (n c : Nat) (l : List α) : Prop :=
  l.length = n ∧ n ≤ c ∧ (0 < n → ∃ g o, A = some ⟨g, o, none⟩ ∧ g < w.heap.size ∧ ∀ i a, l[i]? = some a → P w g (o + i * s) a)
def BdAt (k : Nat) (w : World) (g o : Nat) (b : BodyL) : Prop := ∃ A n c, w.cell? ⟨g, o, none⟩ = some (strV b.name) ∧ w.cell? ⟨g, o + 1, none⟩ = some (.slice A n c) ∧ SlS (MkAt k) 7 w A n c b.pts ∧ NmL b.name
def JtAt (w : World) (g o : Nat) (j : JointL) : Prop := w.cell? ⟨g, o, none⟩ = some (strV j.name) ∧ w.cell? ⟨g, o + 1, none⟩ = some (.int .i64 j.kind) ∧ w.cell? ⟨g, o + 2, none⟩ = some (.int .i64 j.a) ∧ w.cell? ⟨g, o + 3, none⟩ = some (.int .i64 j.point) ∧ w.cell? ⟨g, o + 4, none⟩ = some (.int .i64 j.b) ∧ w.cell? ⟨g, o + 5, none⟩ = some (.int .i64 j.on) ∧ w.cell? ⟨g, o + 6, none⟩ = some (.int .i64 j.to_) ∧ NmL j.name
def DrAt (w : World) (g o : Nat) (d : DriverL) : Prop := w.cell? ⟨g, o, none⟩ = some (strV d.name) ∧ w.cell? ⟨g, o + 1, none⟩ = some (.int .i64 d.body) ∧ NmL d.name
structure LkS (k : Nat) (w : World) (A : Option Addr) (n c : Nat) (B : Option Addr) (p d : Nat) (C : Option Addr) (q e : Nat) (L : LinkL) : Prop where
  name : NmL L.name
  bodies : SlS (BdAt k) 2 w A n c L.bodies
  joints : SlS JtAt 7 w B p d L.joints
  drivers : SlS DrAt 2 w C q e L.drivers
theorem cell_belw {w w' : World} {g o : Nat} {v : Value} (h : w.cell? ⟨g, o, none⟩ = some v) (hb : Below w.heap.size w w') : w'.cell? ⟨g, o, none⟩ = some v := (hb.cell (p := ⟨g, o, none⟩) (World.block_lt_of_cell? w _ h)).trans h
theorem RatAt.belw {w w' : World} {g o : Nat} {r : RD} {k : Nat} (h : RatAt w g o r k) (hb : Below w.heap.size w w') : RatAt w' g o r k := by
  obtain ⟨b, A, n, c, D, m, e, h1, h2, h3, h4⟩ := h
  exact ⟨b, A, n, c, D, m, e, cell_belw h1 hb, cell_belw h2 hb, cell_belw h3 hb, h4.belw hb⟩
theorem MkAt.belw {w w' : World} {g o : Nat} {m : MarkL} {k : Nat} (h : MkAt k w g o m) (hb : Below w.heap.size w w') : MkAt k w' g o m := ⟨cell_belw h.1 hb, h.2.1.belw hb, h.2.2.1.belw hb, h.2.2.2⟩
theorem SlS.belw {α : Type} {P : World → Nat → Nat → α → Prop} {s : Nat} {w w' : World} {A : Option Addr} {n c : Nat} {l : List α} (hP : ∀ g o a, P w g o a → P w' g o a) (h : SlS P s w A n c l) (hb : Below w.heap.size w w') : SlS P s w' A n c l := by
  refine ⟨h.1, h.2.1, fun hn => ?_⟩
  obtain ⟨g, o, e, hg, h3⟩ := h.2.2 hn
  exact ⟨g, o, e, Nat.lt_of_lt_of_le hg hb.size, fun i a ha => hP _ _ _ (h3 i a ha)⟩
theorem BdAt.belw {w w' : World} {g o : Nat} {b : BodyL} {k : Nat} (h : BdAt k w g o b) (hb : Below w.heap.size w w') : BdAt k w' g o b := by
  obtain ⟨A, n, c, h1, h2, h3, h4⟩ := h
  exact ⟨A, n, c, cell_belw h1 hb, cell_belw h2 hb, h3.belw (fun _ _ _ h => h.belw hb) hb, h4⟩
theorem JtAt.belw {w w' : World} {g o : Nat} {j : JointL} (h : JtAt w g o j) (hb : Below w.heap.size w w') : JtAt w' g o j :=
  ⟨cell_belw h.1 hb, cell_belw h.2.1 hb, cell_belw h.2.2.1 hb, cell_belw h.2.2.2.1 hb, cell_belw h.2.2.2.2.1 hb, cell_belw h.2.2.2.2.2.1 hb, cell_belw h.2.2.2.2.2.2.1 hb, h.2.2.2.2.2.2.2⟩
theorem DrAt.belw {w w' : World} {g o : Nat} {d : DriverL} (h : DrAt w g o d) (hb : Below w.heap.size w w') : DrAt w' g o d := ⟨cell_belw h.1 hb, cell_belw h.2.1 hb, h.2.2⟩
theorem LkS.belw {k : Nat} {w w' : World} {A B C : Option Addr} {n c p d q e : Nat} {L : LinkL} (h : LkS k w A n c B p d C q e L) (hb : Below w.heap.size w w') : LkS k w' A n c B p d C q e L :=
  ⟨h.name, h.bodies.belw (fun _ _ _ h => h.belw hb) hb, h.joints.belw (fun _ _ _ h => h.belw hb) hb, h.drivers.belw (fun _ _ _ h => h.belw hb) hb⟩
theorem SlS.bd {k : Nat} {w w' : World} {A : Option Addr} {n c : Nat} {l : List BodyL} (h : SlS (BdAt k) 2 w A n c l) (hb : Below w.heap.size w w') : SlS (BdAt k) 2 w' A n c l := h.belw (fun _ _ _ h => h.belw hb) hb
theorem SlS.mk_ {k : Nat} {w w' : World} {A : Option Addr} {n c : Nat} {l : List MarkL} (h : SlS (MkAt k) 7 w A n c l) (hb : Below w.heap.size w w') : SlS (MkAt k) 7 w' A n c l := h.belw (fun _ _ _ h => h.belw hb) hb
theorem SlS.jt {w w' : World} {A : Option Addr} {n c : Nat} {l : List JointL} (h : SlS JtAt 7 w A n c l) (hb : Below w.heap.size w w') : SlS JtAt 7 w' A n c l := h.belw (fun _ _ _ h => h.belw hb) hb
theorem SlS.dr {w w' : World} {A : Option Addr} {n c : Nat} {l : List DriverL} (h : SlS DrAt 2 w A n c l) (hb : Below w.heap.size w w') : SlS DrAt 2 w' A n c l := h.belw (fun _ _ _ h => h.belw hb) hb
theorem SlS.at_ {α : Type} {P : World → Nat → Nat → α → Prop} {s : Nat} {w : World} {A : Option Addr} {n c : Nat} {l : List α} (h : SlS P s w A n c l) {i : Nat} (hi : i < n) : ∃ g o a, A = some ⟨g, o, none⟩ ∧ g < w.heap.size ∧ n ≤ c ∧ l[i]? = some a ∧ P w g (o + i * s) a := by
  obtain ⟨g, o, e, hg, h3⟩ := h.2.2 (by omega)
  have hl : i < l.length := by rw [h.1]; exact hi
  exact ⟨g, o, l[i], e, hg, h.2.1, List.getElem?_eq_getElem hl, h3 i _ (List.getElem?_eq_getElem hl)⟩
theorem SlS.rowAt {α : Type} {P : World → Nat → Nat → α → Prop} {s : Nat} {w : World} {g o n c : Nat} {l : List α} (h : SlS P s w (some ⟨g, o, none⟩) n c l) {j : Nat} (hj : j < n) : ∃ a, l[j]? = some a ∧ P w g (o + j * s) a := by
  obtain ⟨g', o', a, e, _, _, ha, hp⟩ := h.at_ hj
  injection e with e
  injection e with e1 e2 _
  subst e1 e2
  exact ⟨a, ha, hp⟩
end Go.Proofs.YtckjakojllcdoaaGreatDoor

/- Walks: strings.Builder: copyCheck (its loader's refusal is never met), WriteString. -/
namespace Go.Proofs.YtckjakojllcdoaaGreatDoor
open Go Go.RowKit Bn
theorem bld_used (b : Nat) (w : World) (h0 : w.cell? ⟨b, 0, none⟩ = some (.pointer (some ⟨b, 0, none⟩))) :
  Calls Tryz.prog 43 #[.pointer (some ⟨b, 0, none⟩)] w fun e w' => e = .returned (.tuple #[]) ∧ w' = w := by
 obtain ⟨j, hj, _⟩ := Option.map_eq_some_iff.1 (show (Tryz.prog.info? 55).map TypeInfo.size = some 2 by kernel_rfl)
 go_enter Tryz.func43, Tryz.ntmps43
 go_wp2
 rw [Lib.run_neq_ptr_same w _ Tryz.underlying52 hj]
 go_wp2
 go_end0
 exact ⟨rfl, rfl⟩
theorem bld_fresh (b : Nat) (w : World) (h0 : w.cell? ⟨b, 0, none⟩ = some (.pointer none)) (hsh : w.shape? b = some (55, 2)) (hfz : w.frozen? ⟨b, 0, none⟩ = false) :
  Calls Tryz.prog 43 #[.pointer (some ⟨b, 0, none⟩)] w fun e w' => e = .returned (.tuple #[]) ∧ w' = w.setCell ⟨b, 0, none⟩ (.pointer (some ⟨b, 0, none⟩)) := by
 obtain ⟨j, hj, hjs⟩ := Option.map_eq_some_iff.1 (show (Tryz.prog.info? 55).map TypeInfo.size = some 2 by kernel_rfl)
 go_enter Tryz.func43, Tryz.ntmps43
 go_wp2
 rw [Lib.run_to_unsafe w ⟨b, 0, none⟩ Tryz.underlying52 Tryz.underlying95 hj (by rw [hjs]; decide) hsh (Nat.zero_lt_succ 1)]
 simp only [Result.andThen]
 rw [Oper.upon_value]
 go_wp2
 rw [run_callFunc_extern Tryz.func66 (by kernel_rfl) (by kernel_rfl) (by kernel_rfl) (e := Extern.AbiNoEscape.same) (by kernel_rfl)]
 rw [Lib.run_noEscape]
 simp only [Result.andThen]
 rw [Oper.upon_value]
 go_wp2
 rw [Lib.run_from_unsafe w ⟨b, 0, none⟩ Tryz.underlying95 Tryz.underlying52 hj hsh (by kernel_rfl)]
 simp only [Result.andThen]
 rw [Oper.upon_value]
 go_wp2
 go_end0
 exact ⟨rfl, rfl⟩
def Oth (b : Nat) (w w' : World) : Prop := ∀ g T cs, g ≠ b → T ≠ 5 → Blk w g T cs → Blk w' g T cs
theorem Oth.refl (b : Nat) (w : World) : Oth b w w := fun _ _ _ _ _ h => h
theorem Oth.set {b : Nat} {w w' : World} (h : Oth b w w') (i : Nat) (u : Value) : Oth b w (w'.setCell ⟨b, i, none⟩ u) := fun g T cs hg hT hb => (h g T cs hg hT hb).far hg u
theorem bld_check (B b : Nat) (bs : List Value) (w : World) (h : Lib.IsBuilder 55 5 B b bs w) :
    Calls Tryz.prog 43 #[.pointer (some ⟨b, 0, none⟩)] w fun e w' => e = .returned (.tuple #[]) ∧ (Lib.BuilderAt 55 5 B b (.pointer (some ⟨b, 0, none⟩)) bs w' ∧ Below B w w' ∧ Oth b w w') := by
  rcases h with h | h
  · refine (bld_fresh b w h.cell0 h.shape h.frozen0).mono ?_
    rintro e w' ⟨rfl, rfl⟩
    exact ⟨rfl, h.used _, (Below.refl B w).setCell (p := ⟨b, 0, none⟩) h.1 _, (Oth.refl b w).set 0 _⟩
  · refine (bld_used b w h.cell0).mono ?_
    rintro e w' ⟨rfl, rfl⟩
    exact ⟨rfl, h, Below.refl B _, Oth.refl b _⟩
theorem bld_write (B b : Nat) (bs : List Value) (s : ByteArray) (w : World) (h : Lib.IsBuilder 55 5 B b bs w) (hlen : bs.length + s.size ≤ 140737488355328) (hBw : B ≤ w.heap.size) :
  Calls Tryz.prog 21 #[.pointer (some ⟨b, 0, none⟩), .string s] w fun e w' => e = .returned (.tuple #[.int .i64 s.size, .nilIface]) ∧ (Lib.BuilderAt 55 5 B b (.pointer (some ⟨b, 0, none⟩)) (bs ++ Lib.strCells s) w' ∧ Below B w w' ∧ Oth b w w') := by
 obtain ⟨i0, hi, hz0, hz1, hz2⟩ := info_parts (show (Tryz.prog.info? 5).map (fun i => (i.zero, i.size, i.bytes)) = some (some (.int .u8 0), 1, 1) by kernel_rfl)
 go_enter Tryz.func21, Tryz.ntmps21
 go_wp2_with (go_at_call 43; refine (bld_check B b bs _ h).mono ?_)
 rintro e w1 ⟨rfl, h1, hb1, ho1⟩
 obtain ⟨hB, v, hbk, hown, hne⟩ := h1
 have c0 : w1.cell? ⟨b, 0, none⟩ = some (.pointer (some ⟨b, 0, none⟩)) := by rw [Lib.cell_of_heap hbk]; rfl
 have c1 : w1.cell? ⟨b, 1, none⟩ = some v := by rw [Lib.cell_of_heap hbk]; rfl
 go_wp2_with (at_builtin; refine Lib.wpList_append_own_string _ rfl _ _ 53 9 rfl B 5 i0 Tryz.underlying53 Tryz.underlying9 hi hz0 hz1 hz2 _ _ _ rfl hown s rfl ?c3 ?c4 ?c5 ?_)
 case c3 => unfold maxLen; omega
 case c4 => omega
 case c5 => have := hb1.size; omega
 intro v' w2 hown' hgrow _
 have hlt : b < w1.heap.size := by
  rcases Nat.lt_or_ge b w1.heap.size with h' | h'
  ·exact h'
  ·simp [Array.getElem?_eq_none h'] at hbk
 have hb2 : w2.heap[b]? = some (.cells #[.pointer (some ⟨b, 0, none⟩), v] 55 (0, 0)) := by
  rw [hgrow.block b hlt (fun e => hne e.symm)]
  exact hbk
 have d0 : w2.cell? ⟨b, 0, none⟩ = some (.pointer (some ⟨b, 0, none⟩)) := by rw [Lib.cell_of_heap hb2]; rfl
 have d1 : w2.cell? ⟨b, 1, none⟩ = some v := by rw [Lib.cell_of_heap hb2]; rfl
 have f1 : w2.frozen? ⟨b, 1, none⟩ = false := Lib.frozen_of_heap hb2 1
 obtain ⟨ao, n', cap, rfl⟩ : ∃ ao n' cap, v' = .slice ao n' cap := by
  rcases hown'.2 with ⟨hv, _⟩ | ⟨g, cap, cur, hv, _⟩
  ·exact ⟨_, _, _, hv⟩
  ·exact ⟨_, _, _, hv⟩
 go_wp2
 go_ret2
 refine ⟨rfl, ?_, ?_, Oth.set (fun g T cs hg hT hb => ?_) 1 _⟩
 ·exact Lib.BuilderAt.put (T := 55) (e := 5) hB hb2 (bs' := bs ++ Lib.strCells s) (by simpa [Lib.strCells_length] using hown') (by decide)
 ·exact (hb1.grown hgrow (by have := hb1.size; omega) (fun k hk => (hown.lt k hk).1)).setCell (p := ⟨b, 1, none⟩) hB _
 ·have h9 := ho1 g T cs hg hT hb
  refine (hgrow.block g h9.lt (fun hgv => ?_)).trans h9
  rcases hown.2 with ⟨hv, _⟩ | ⟨g', cap, cur, hv, _, hk, _⟩
  ·rw [hv] at hgv; cases hgv
  ·rw [hv] at hgv
   injection hgv with hgv
   subst hgv
   have := h9.symm.trans hk
   simp only [Option.some.injEq, Obj.cells.injEq] at this
   exact hT this.2.1
end Go.Proofs.YtckjakojllcdoaaGreatDoor

/- Walks: texts of linkages: numbers; a builder of a call's own. -/
namespace Go.Proofs.YtckjakojllcdoaaGreatDoor
open Go Go.RowKit Bn
attribute [local go_sem ↓] Go.wp_at_zero Go.wp_at_succ
theorem p_number (w : World) (b : Bool) (A : Option Addr) (n c : Nat) (D : Option Addr) (m e : Nat) (r : RD) (k : Nat) (h : QD w b A n c D m e r k) (h0 : 0 < k) (hk : k ≤ 40000000) (htab : Tab w) (T : List UInt8) (hT : ratText r.q = T) :
  Calls Tryz.prog 14 #[.agg #[.bool b, .slice A n c, .slice D m e]] w (RetV w (strV T)) := by
 have H := Lib.hid h
 have HT := Lib.hid hT
 clear h hT
 go_enter Tryz.func14, Tryz.ntmps14
 go_wp2_with fail
 have q0 : Below w.heap.size w (w.alloc (.cells #[.bool b, .slice A n c, .slice D m e] 41)) := (Below.refl _ _).alloc (Nat.le_refl _) _
 (with_reducible refine (f_text _ b A n c D m e r.q k (H.out.belw q0).qz h0 hk (htab.belw q0) T HT.out).mono ?_); rintro e' w1 ⟨rfl, hb1⟩
 have q1 := q0.trans (hb1.mono q0.size)
 go_wp2_with fail
 go_ret
 exact ⟨rfl, q1⟩
theorem r_number (w : World) (b : Bool) (A : Option Addr) (n c : Nat) (D : Option Addr) (m e : Nat) (r : RD) (k : Nat) (h : QD w b A n c D m e r k) (h0 : 0 < k) (hk : k ≤ 40000000) (T : List UInt8) (hT : ratText r.q = T) :
  Calls Tryz.prog 15 #[.agg #[.bool b, .slice A n c, .slice D m e]] w (RetV w (strV T)) := by
 have H := Lib.hid h
 have HT := Lib.hid hT
 clear h hT
 go_enter Tryz.func15, Tryz.ntmps15
 go_wp2_with fail
 have q0 : Below w.heap.size w (w.alloc (.cells #[.bool b, .slice A n c, .slice D m e] 41)) := (Below.refl _ _).alloc (Nat.le_refl _) _
 (with_reducible refine (g_text _ b A n c D m e r.q k (H.out.belw q0).qz h0 hk T HT.out).mono ?_); rintro e' w1 ⟨rfl, hb1⟩
 have q1 := q0.trans (hb1.mono q0.size)
 go_wp2_with fail
 go_ret
 exact ⟨rfl, q1⟩
def Bu (B b : Nat) (w : World) (l : List UInt8) : Prop := Lib.IsBuilder 55 5 B b (Lib.byteCells l) w ∧ B ≤ w.heap.size
theorem BuilderAt.belw {T e : TypeId} {B b : Nat} {p : Value} {bs : List Value} {w w' : World} (h : Lib.BuilderAt T e B b p bs w) (hb : Below w.heap.size w w') : Lib.BuilderAt T e B b p bs w' := by
  have hlt := h.lt
  obtain ⟨hB, v, hk, hown, hne⟩ := h
  refine ⟨hB, v, (hb.block b hlt).trans hk, ⟨hown.1, ?_⟩, hne⟩
  rcases hown.2 with h1 | ⟨g, cap, cur, h1, h2, h3, h4⟩
  · exact Or.inl h1
  · refine Or.inr ⟨g, cap, cur, h1, h2, (hb.block g ?_).trans h3, h4⟩
    exact lt_of_block h3
theorem Bu.belw {B b : Nat} {w w' : World} {l : List UInt8} (h : Bu B b w l) (hb : Below w.heap.size w w') : Bu B b w' l :=
  ⟨h.1.imp (fun x => BuilderAt.belw x hb) (fun x => BuilderAt.belw x hb), Nat.le_trans h.2 hb.size⟩
theorem Bu.lt {B b : Nat} {w : World} {l : List UInt8} (h : Bu B b w l) : b < w.heap.size := h.1.elim (fun x => x.lt) (fun x => x.lt)
theorem Bu.new {w : World} : Bu w.heap.size w.heap.size (w.alloc (.cells #[.pointer none, .slice none 0 0] 55)) [] :=
  ⟨Lib.fresh_isBuilder _ _ w, by simp⟩
theorem byteCells_app (a : List UInt8) (b : List UInt8) : Lib.byteCells a ++ Lib.strCells ⟨b.toArray⟩ = Lib.byteCells (a ++ b) := by
  simp [Lib.strCells, Lib.byteCells]
theorem bu_write (B b : Nat) (w : World) (l s : List UInt8) (h : Bu B b w l) (hlen : l.length + s.length ≤ 140737488355328) :
    Calls Tryz.prog 21 #[.pointer (some ⟨b, 0, none⟩), strV s] w fun e w' => e = .returned (.tuple #[.int .i64 (s.length : Nat), .nilIface]) ∧ Bu B b w' (l ++ s) ∧ Below B w w' ∧ Oth b w w' := by
  have hz : (⟨s.toArray⟩ : ByteArray).size = s.length := size_v s
  refine (bld_write B b (Lib.byteCells l) ⟨s.toArray⟩ w h.1 (by rw [hz]; simpa [Lib.byteCells] using hlen) h.2).mono ?_
  rintro e w' ⟨rfl, h1, h2, h3⟩
  rw [byteCells_app] at h1
  exact ⟨by rw [hz], ⟨Or.inr h1, Nat.le_trans h.2 h2.size⟩, h2, h3⟩
theorem bu_len (B b : Nat) (w : World) (l : List UInt8) (h : Bu B b w l) :
    Calls Tryz.prog 24 #[.pointer (some ⟨b, 0, none⟩)] w fun e w' => e = .returned (.int .i64 (l.length : Nat)) ∧ w' = w := by
  refine (Tryz.Builder_Len B b _ w h.1).mono ?_
  rintro e w' ⟨rfl, rfl⟩
  exact ⟨by simp [Lib.byteCells], rfl⟩
theorem bu_str (B b : Nat) (w : World) (l : List UInt8) (h : Bu B b w l) :
    Calls Tryz.prog 26 #[.pointer (some ⟨b, 0, none⟩)] w fun e w' => e = .returned (strV l) ∧ Below B w w' := Tryz.Builder_String_any B b l w h.1 h.2
end Go.Proofs.YtckjakojllcdoaaGreatDoor

/- Walks: texts of linkages: bodies (program). -/
namespace Go.Proofs.YtckjakojllcdoaaGreatDoor
open Go Go.RowKit Bn
attribute [local go_sem ↓] Go.wp_at_zero Go.wp_at_succ
theorem Blk.c7 {w : World} {g t : Nat} {a0 a1 a2 a3 a4 a5 a6 : Value} (h : Blk w g t #[a0, a1, a2, a3, a4, a5, a6]) : w.cell? ⟨g, 0, none⟩ = some a0 ∧ w.cell? ⟨g, 1, none⟩ = some a1 ∧ w.cell? ⟨g, 2, none⟩ = some a2 ∧ w.cell? ⟨g, 3, none⟩ = some a3 ∧ w.cell? ⟨g, 4, none⟩ = some a4 ∧ w.cell? ⟨g, 5, none⟩ = some a5 ∧ w.cell? ⟨g, 6, none⟩ = some a6 := ⟨h.cell 0, h.cell 1, h.cell 2, h.cell 3, h.cell 4, h.cell 5, h.cell 6⟩
abbrev S7 (g : Nat) (a0 a1 a2 a3 a4 a5 a6 : Value) (w : World) : Prop := w.cell? ⟨g, 0, none⟩ = some a0 ∧ w.cell? ⟨g, 1, none⟩ = some a1 ∧ w.cell? ⟨g, 2, none⟩ = some a2 ∧ w.cell? ⟨g, 3, none⟩ = some a3 ∧ w.cell? ⟨g, 4, none⟩ = some a4 ∧ w.cell? ⟨g, 5, none⟩ = some a5 ∧ w.cell? ⟨g, 6, none⟩ = some a6
theorem MkAt.short {w : World} {g o : Nat} {m : MarkL} (h : MkAt 40 w g o m) (hm : m.name.length ≤ 1000) : MkShort m := by
  obtain ⟨_, ⟨b, A, n, c, D, m1, e, _, _, _, h1⟩, ⟨b', A', n', c', D', m1', e', _, _, _, h2⟩, _⟩ := h
  exact ⟨hm, h1.sz (by decide), h2.sz (by decide)⟩
theorem SlS.short {w : World} {A : Option Addr} {n c : Nat} {l : List MarkL} (h : SlS (MkAt 40) 7 w A n c l) (hms : ∀ m ∈ l, m.name.length ≤ 1000) : ∀ m ∈ l, MkShort m := by
  intro m hm
  obtain ⟨i, hi, e⟩ := List.getElem_of_mem hm
  obtain ⟨g, o, a, _, _, _, ha, hp⟩ := h.at_ (i := i) (by rw [← h.1]; exact hi)
  rw [List.getElem?_eq_getElem hi] at ha
  injection ha with ha
  rw [← ha, e] at hp
  exact hp.short (hms m hm)
theorem p_body (w : World) (A : Option Addr) (n c : Nat) (b : BodyL) (h : SlS (MkAt 40) 7 w A n c b.pts) (htab : Tab w) (hn : n ≤ 1000) (hnm : b.name.length ≤ 1000) (hms : ∀ m ∈ b.pts, m.name.length ≤ 1000) (T : List UInt8) (hT : bodyText b = T) :
  Calls Tryz.prog 12 #[.agg #[strV b.name, .slice A n c]] w (RetV w (strV T)) := by
 have HM := Lib.hid (h.short hms)
 have HF := Lib.hid (marks_len (h.short hms))
 have hlen := h.1
 have hnc := h.2.1
 have hsn := size_v b.name
 obtain ⟨h1, eh1⟩ : ∃ t, [98, 111, 100, 121, 32] ++ b.name = t := ⟨_, rfl⟩
 have ah1 := app_v ([98, 111, 100, 121, 32]) (b.name)
 rw [eh1] at ah1
 have lh1 : h1.length = 5 + b.name.length := by rw [← eh1, List.length_append]; try simp
 have kh1 : (9223372036854775807 < 5 + b.name.length) = False := eq_false (by omega)
 have zh1 := size_v h1
 obtain ⟨h2, eh2⟩ : ∃ t, h1 ++ [32, 123] = t := ⟨_, rfl⟩
 have ah2 := app_v (h1) ([32, 123])
 rw [eh2] at ah2
 have lh2 : h2.length = h1.length + 2 := by rw [← eh2, List.length_append]; try simp
 have kh2 : (9223372036854775807 < h1.length + 2) = False := eq_false (by omega)
 have zh2 := size_v h2
 have HE : Hid (b.pts.flatMap markText ++ [32, 125] ++ [] = b.pts.flatMap markText ++ [32, 125] ∧ T = h2 ++ b.pts.flatMap markText ++ [32, 125]) := Lib.hid ⟨by simp, by rw [← hT, ← eh2, ← eh1]; rfl⟩
 have HLN := Lib.hid hlen
 have HTab := Lib.hid htab
 have H := Lib.hid h
 have hl2 : h2.length ≤ 1007 := by omega
 clear h hms hT htab hlen eh1 eh2 lh1 lh2
 go_enter Tryz.func12, Tryz.ntmps12
 go_wp2_with fail
 have B0 : Bu (w.heap.size + 1) (w.heap.size + 1) ((w.alloc (.cells #[strV b.name, .slice A n c] 38)).alloc (.cells #[.pointer none, .slice none 0 0] 55)) [] := by
  have := Bu.new (w := w.alloc (.cells #[strV b.name, .slice A n c] 38))
  simpa using this
 have q0 : Below w.heap.size w ((w.alloc (.cells #[strV b.name, .slice A n c] 38)).alloc (.cells #[.pointer none, .slice none 0 0] 55)) := ((brefl w).alloc (Nat.le_refl _) _).alloc (by simp) _
 have xa : Blk ((w.alloc (.cells #[strV b.name, .slice A n c] 38)).alloc (.cells #[.pointer none, .slice none 0 0] 55)) w.heap.size 38 #[strV b.name, .slice A n c] := (blkAt _ _ _ rfl).alloc _
 (with_reducible refine (bu_write _ _ _ _ h2 B0 (by simp; omega)).mono ?_); rintro e' w1 ⟨rfl, B1, q1, _⟩
 have q1 : Below w.heap.size w w1 := q0.trans (q1.mono (by omega))
 have xa := xa.below ‹Below (w.heap.size + 1) _ w1› (by omega)
 rw [List.nil_append] at B1
 clear B0 q0
 obtain ⟨cA0, cA1⟩ := xa.c2
 have HB := Lib.hid B1
 clear B1
 go_wp2_with fail
 clear cA0 cA1
 go_loopw [14] (fun iv wr => ∃ i : Nat, iv = .int .i64 (i : Nat) ∧ i ≤ n ∧ Hid (Bu (w.heap.size + 1) (w.heap.size + 1) wr (h2 ++ (b.pts.take i).flatMap markText)) ∧ Below w.heap.size w wr) (fun iv _ => n - (intOf iv).toNat)
 case atStart => exact ⟨0, rfl, Nat.zero_le _, by simpa using HB, q1⟩
 case round =>
  clear HB q1
  obtain ⟨i, rfl, hi, HB, hb⟩ := hrel
  rename World => wa
  have hfl := flat_len markText b.pts i
  rcases Nat.lt_or_ge i n with hlt | hge
  ·have hi1 : ((i : Int) < (n : Int)) = True := by simp; omega
   obtain ⟨g, o, m, e1, hg, _, hbi, hM⟩ := (H.out.mk_ hb).at_ hlt
   subst e1
   have hsh := HM.out m (List.mem_of_getElem? hbi)
   obtain ⟨hm1, hm2, hm3⟩ := hsh
   have hfs := flat_step markText hbi
   have hfl2 := flat_len markText b.pts (i + 1)
   obtain ⟨d0, ⟨b1, A1, n1, c1, D1, m1, e1, d1, d2, d3, hQ1⟩, ⟨b2, A2, n2, c2, D2, m2, e2, d4, d5, d6, hQ2⟩, hmn⟩ := hM
   have d2 : wa.cell? ⟨g, o + i * 7 + 2, none⟩ = some (.slice A1 n1 c1) := d2
   have d3 : wa.cell? ⟨g, o + i * 7 + 3, none⟩ = some (.slice D1 m1 e1) := d3
   have d5 : wa.cell? ⟨g, o + i * 7 + 5, none⟩ = some (.slice A2 n2 c2) := d5
   have d6 : wa.cell? ⟨g, o + i * 7 + 6, none⟩ = some (.slice D2 m2 e2) := d6
   have hsm := size_v m.name
   obtain ⟨X, hX⟩ : ∃ X, ratText m.x.q = X := ⟨_, rfl⟩
   obtain ⟨Y, hY⟩ : ∃ Y, ratText m.y.q = Y := ⟨_, rfl⟩
   have hsX := size_v X
   have hsY := size_v Y
   have hlX : X.length ≤ 1000 := by rw [← hX]; exact ratText_le hm2 (Nat.le_refl _)
   have hlY : Y.length ≤ 1000 := by rw [← hY]; exact ratText_le hm3 (Nat.le_refl _)
   obtain ⟨s1, es1⟩ : ∃ t, [32] ++ m.name = t := ⟨_, rfl⟩
   have as1 := app_v ([32]) (m.name)
   rw [es1] at as1
   have ls1 : s1.length = 1 + m.name.length := by rw [← es1, List.length_append]; try simp
   have ks1 : (9223372036854775807 < 1 + m.name.length) = False := eq_false (by omega)
   have zs1 := size_v s1
   obtain ⟨s2, es2⟩ : ∃ t, s1 ++ [32] = t := ⟨_, rfl⟩
   have as2 := app_v (s1) ([32])
   rw [es2] at as2
   have ls2 : s2.length = s1.length + 1 := by rw [← es2, List.length_append]; try simp
   have ks2 : (9223372036854775807 < s1.length + 1) = False := eq_false (by omega)
   have zs2 := size_v s2
   obtain ⟨s3, es3⟩ : ∃ t, s2 ++ X = t := ⟨_, rfl⟩
   have as3 := app_v (s2) (X)
   rw [es3] at as3
   have ls3 : s3.length = s2.length + X.length := by rw [← es3, List.length_append]; try simp
   have ks3 : (9223372036854775807 < s2.length + X.length) = False := eq_false (by omega)
   have zs3 := size_v s3
   obtain ⟨s4, es4⟩ : ∃ t, s3 ++ [32] = t := ⟨_, rfl⟩
   have as4 := app_v (s3) ([32])
   rw [es4] at as4
   have ls4 : s4.length = s3.length + 1 := by rw [← es4, List.length_append]; try simp
   have ks4 : (9223372036854775807 < s3.length + 1) = False := eq_false (by omega)
   have zs4 := size_v s4
   obtain ⟨s5, es5⟩ : ∃ t, s4 ++ Y = t := ⟨_, rfl⟩
   have as5 := app_v (s4) (Y)
   rw [es5] at as5
   have ls5 : s5.length = s4.length + Y.length := by rw [← es5, List.length_append]; try simp
   have ks5 : (9223372036854775807 < s4.length + Y.length) = False := eq_false (by omega)
   have zs5 := size_v s5
   obtain ⟨s6, es6⟩ : ∃ t, s5 ++ [59] = t := ⟨_, rfl⟩
   have as6 := app_v (s5) ([59])
   rw [es6] at as6
   have ls6 : s6.length = s5.length + 1 := by rw [← es6, List.length_append]; try simp
   have ks6 : (9223372036854775807 < s5.length + 1) = False := eq_false (by omega)
   have zs6 := size_v s6
   have hmt : markText m = s6 := by
    rw [← es6, ← es5, ← es4, ← es3, ← es2, ← es1, ← hX, ← hY]
    unfold markText
    simp
   rw [hmt] at hfs
   have hls : ((b.pts.take i).flatMap markText).length + s6.length ≤ 3010 * n := by
    have := congrArg List.length hfs
    rw [List.length_append] at this
    have h9 := HF.out
    have h8 := HLN.out
    rw [h8] at h9
    omega
   have HX := Lib.hid hX
   have HY := Lib.hid hY
   have HFS := Lib.hid hfs
   have HQ1 := Lib.hid hQ1
   have HQ2 := Lib.hid hQ2
   have HLS := Lib.hid hls
   have hga : g < wa.heap.size := hg
   clear hX hY hfs hQ1 hQ2 hls hmt hfl hfl2 hbi hm1 hm2 hm3 es1 es2 es3 es4 es5 es6 ls1 ls2 ls3 ls4 ls5 ls6
   go_wp2_with fail
   have xp : Blk (wa.alloc (.cells #[strV m.name, .bool b1, .slice A1 n1 c1, .slice D1 m1 e1, .bool b2, .slice A2 n2 c2, .slice D2 m2 e2] 50)) wa.heap.size 50 #[strV m.name, .bool b1, .slice A1 n1 c1, .slice D1 m1 e1, .bool b2, .slice A2 n2 c2, .slice D2 m2 e2] := blkAt _ _ _ rfl
   have qb : Below wa.heap.size wa (wa.alloc (.cells #[strV m.name, .bool b1, .slice A1 n1 c1, .slice D1 m1 e1, .bool b2, .slice A2 n2 c2, .slice D2 m2 e2] 50)) := (brefl wa).alloc (Nat.le_refl _) _
   have HBb := Lib.hid (HB.out.belw qb)
   have HTb := Lib.hid ((HTab.out.belw hb).belw qb)
   have HQ1b := Lib.hid (HQ1.out.belw qb)
   have HQ2b := Lib.hid (HQ2.out.belw qb)
   have bwb := hb.trans (qb.mono hb.size)
   have hwb : wa.heap.size < (wa.alloc (.cells #[strV m.name, .bool b1, .slice A1 n1 c1, .slice D1 m1 e1, .bool b2, .slice A2 n2 c2, .slice D2 m2 e2] 50)).heap.size := xp.lt
   have hbl : wa.heap.size ≠ w.heap.size + 1 := by have := HB.out.lt; omega
   clear HB HQ1 HQ2 d0 d1 d2 d3 d4 d5 d6
   generalize (wa.alloc (.cells #[strV m.name, .bool b1, .slice A1 n1 c1, .slice D1 m1 e1, .bool b2, .slice A2 n2 c2, .slice D2 m2 e2] 50)) = wb at xp qb HBb HTb HQ1b HQ2b bwb hwb ⊢
   obtain ⟨cp0, cp1, cp2, cp3, cp4, cp5, cp6⟩ := xp.c7
   go_region_held3 (S7 wa.heap.size (strV m.name) (.bool b1) (.slice A1 n1 c1) (.slice D1 m1 e1) (.bool b2) (.slice A2 n2 c2) (.slice D2 m2 e2)) (first | with_reducible exact Blk.c7 (by assumption) | with_reducible exact Blk.c7 (Blk.drew (by assumption)) | exact Blk.c7 (Blk.drewN (by assumption) _))
    (first
     | (go_at_call 14; (with_reducible refine (p_number _ b1 A1 n1 c1 D1 m1 e1 m.x 40 ?_ (by decide) (by decide) ?_ X HX.out).mono ?_); (exact HQ1b.out.belw (by first | exact qwy | exact (brefl wb).drew | exact below_drewN (brefl wb) _)); (exact HTb.out.belw (by first | exact qwy | exact (brefl wb).drew | exact below_drewN (brefl wb) _)); rintro e' wx ⟨rfl, hwx⟩; have qwx : Below wb.heap.size wb wx := (by first | exact bnext qwy hwx | exact bnext (brefl wb) hwx | exact bnext (below_drewN (brefl wb) _) hwx); have xwx := xp.below qwx xp.lt)
     | (go_at_call 14; (with_reducible refine (p_number _ b2 A2 n2 c2 D2 m2 e2 m.y 40 ?_ (by decide) (by decide) ?_ Y HY.out).mono ?_); (exact HQ2b.out.belw (by first | exact qwx | exact (brefl wb).drew | exact below_drewN (brefl wb) _)); (exact HTb.out.belw (by first | exact qwx | exact (brefl wb).drew | exact below_drewN (brefl wb) _)); rintro e' wy ⟨rfl, hwy⟩; have qwy : Below wb.heap.size wb wy := (by first | exact bnext qwx hwy | exact bnext (brefl wb) hwy | exact bnext (below_drewN (brefl wb) _) hwy); have xwy := xp.below qwy xp.lt)
     | (go_at_call 21; (with_reducible refine (bu_write _ _ _ _ s6 (HBb.out.belw (by first | exact qwx | exact qwy)) (by rw [List.length_append]; have := HLS.out; omega)).mono ?_); rintro e' wz ⟨rfl, Bz, qz, oz⟩; have xz := oz wa.heap.size 50 _ hbl (by decide) (by first | exact xwx | exact xwy)))
   all_goals
    have bz : Below w.heap.size w wz := by
     first
      | exact (bwb.trans (qwy.mono bwb.size)).trans (qz.mono (Nat.le_succ _))
      | exact (bwb.trans (qwx.mono bwb.size)).trans (qz.mono (Nat.le_succ _))
    have HBz : Hid (Bu (w.heap.size + 1) (w.heap.size + 1) wz (h2 ++ (b.pts.take (i + 1)).flatMap markText)) := Lib.hid (by rw [HFS.out, ← List.append_assoc]; exact Bz)
    clear Bz HFS cp0 cp1 cp2 cp3 cp4 cp5 cp6
    go_wp2_with fail
    go_roundw
    case rel => exact ⟨i + 1, by go_num, by omega, HBz, bz⟩
    case measure => simp [intOf]; omega
  ·have hi1 : ((i : Int) < (n : Int)) = False := by simp; omega
   have hin : b.pts.take i = b.pts := List.take_of_length_le (by rw [HLN.out]; exact hge)
   rw [hin] at HB
   have hf := HF.out
   rw [HLN.out] at hf
   have HFL := Lib.hid hf
   clear hf hin hfl
   go_wp2_with fail
   (with_reducible refine (bu_write _ _ _ _ [32, 125] HB.out (by rw [List.length_append]; have := HFL.out; simp only [List.length_cons, List.length_nil]; omega)).mono ?_); rintro e' w2 ⟨rfl, B2, q2, _⟩
   have b2 := hb.trans (q2.mono (Nat.le_succ _))
   have HB2 := Lib.hid B2
   clear B2
   go_wp2_with fail
   (with_reducible refine (bu_str _ _ _ _ HB2.out).mono ?_); rintro e' w3 ⟨rfl, q3⟩
   have b3 := b2.trans (q3.mono (Nat.le_succ _))
   have hTT : h2 ++ b.pts.flatMap markText ++ [32, 125] = T := HE.out.2.symm
   rw [hTT]
   go_wp2_with fail
   go_ret
   exact ⟨rfl, b3⟩
end Go.Proofs.YtckjakojllcdoaaGreatDoor

/- Walks: texts of linkages: full names (both). -/
namespace Go.Proofs.YtckjakojllcdoaaGreatDoor
open Go Go.RowKit Bn
attribute [local go_sem ↓] Go.wp_at_zero Go.wp_at_succ
theorem p_full (w : World) (A : Option Addr) (n c : Nat) (B : Option Addr) (p d : Nat) (C : Option Addr) (q e : Nat) (nm : List UInt8) (l : List BodyL) (k : Nat) (h : SlS (BdAt k) 2 w A n c l) (i j : Nat) (b : BodyL) (m : MarkL) (hb : l[i]? = some b) (hm : b.pts[j]? = some m) (hlb : b.name.length ≤ 1000) (hlm : m.name.length ≤ 1000) (T : List UInt8) (hT : b.name ++ 46 :: m.name = T) :
  Calls Tryz.prog 22 #[.agg #[strV nm, .slice A n c, .slice B p d, .slice C q e], .int .i64 (i : Nat), .int .i64 (j : Nat)] w (RetV w (strV T)) := by
 have hil : i < n := by rw [← h.1]; exact (List.getElem?_eq_some_iff.1 hb).1
 obtain ⟨g, o, b', e1, hg, hnc, hb', hB⟩ := h.at_ hil
 rw [hb] at hb'
 injection hb' with hb'
 subst hb' e1
 obtain ⟨A', n', c', c0, c1, hM, _⟩ := hB
 have hjl : j < n' := by rw [← hM.1]; exact (List.getElem?_eq_some_iff.1 hm).1
 obtain ⟨g', o', m', e1, hg', hnc', hm', hK⟩ := hM.at_ hjl
 rw [hm] at hm'
 injection hm' with hm'
 subst hm' e1
 have k0 := hK.1
 have f1 : ((i : Int) < (n : Int)) := by omega
 have f2 : ((j : Int) < (n' : Int)) := by omega
 have hsb := size_v b.name
 have hsm := size_v m.name
 obtain ⟨h1, eh1⟩ : ∃ t, b.name ++ [46] = t := ⟨_, rfl⟩
 have ah1 := app_v (b.name) ([46])
 rw [eh1] at ah1
 have lh1 : h1.length = b.name.length + 1 := by rw [← eh1, List.length_append]; try simp
 have kh1 : (9223372036854775807 < b.name.length + 1) = False := eq_false (by omega)
 have zh1 := size_v h1
 obtain ⟨h2, eh2⟩ : ∃ t, h1 ++ m.name = t := ⟨_, rfl⟩
 have ah2 := app_v (h1) (m.name)
 rw [eh2] at ah2
 have lh2 : h2.length = h1.length + m.name.length := by rw [← eh2, List.length_append]; try simp
 have kh2 : (9223372036854775807 < h1.length + m.name.length) = False := eq_false (by omega)
 have zh2 := size_v h2
 have hTT : h2 = T := by rw [← hT, ← eh2, ← eh1]; simp
 subst hTT
 have hgl : ¬ g = w.heap.size := by omega
 have hgl' : ¬ g' = w.heap.size := by omega
 have hgl2 : ¬ g' = w.heap.size + 1 := by omega
 have hnn : ((i : Int) ≤ (n : Int)) := by omega
 clear hb hm hM hK h hT eh1 eh2 lh1 lh2
 go_enter Tryz.func22, Tryz.ntmps22
 go_wp2_with fail
 go_quiet (fail)
 go_wp2_with fail
 go_ret
 exact ⟨rfl, by first | exact ((brefl w).alloc (Nat.le_refl _) _).alloc (by simp) _ | exact below_drewN (((brefl w).alloc (Nat.le_refl _) _).alloc (by simp) _) _⟩
theorem r_full (w : World) (A : Option Addr) (n c : Nat) (B : Option Addr) (p d : Nat) (C : Option Addr) (q e : Nat) (nm : List UInt8) (l : List BodyL) (k : Nat) (h : SlS (BdAt k) 2 w A n c l) (i j : Nat) (b : BodyL) (m : MarkL) (hb : l[i]? = some b) (hm : b.pts[j]? = some m) (hlb : b.name.length ≤ 1000) (hlm : m.name.length ≤ 1000) (T : List UInt8) (hT : b.name ++ 46 :: m.name = T) :
  Calls Tryz.prog 28 #[.agg #[strV nm, .slice A n c, .slice B p d, .slice C q e], .int .i64 (i : Nat), .int .i64 (j : Nat)] w (RetV w (strV T)) := by
 have hil : i < n := by rw [← h.1]; exact (List.getElem?_eq_some_iff.1 hb).1
 obtain ⟨g, o, b', e1, hg, hnc, hb', hB⟩ := h.at_ hil
 rw [hb] at hb'
 injection hb' with hb'
 subst hb' e1
 obtain ⟨A', n', c', c0, c1, hM, _⟩ := hB
 have hjl : j < n' := by rw [← hM.1]; exact (List.getElem?_eq_some_iff.1 hm).1
 obtain ⟨g', o', m', e1, hg', hnc', hm', hK⟩ := hM.at_ hjl
 rw [hm] at hm'
 injection hm' with hm'
 subst hm' e1
 have k0 := hK.1
 have f1 : ((i : Int) < (n : Int)) := by omega
 have f2 : ((j : Int) < (n' : Int)) := by omega
 have hsb := size_v b.name
 have hsm := size_v m.name
 obtain ⟨h1, eh1⟩ : ∃ t, b.name ++ [46] = t := ⟨_, rfl⟩
 have ah1 := app_v (b.name) ([46])
 rw [eh1] at ah1
 have lh1 : h1.length = b.name.length + 1 := by rw [← eh1, List.length_append]; try simp
 have kh1 : (9223372036854775807 < b.name.length + 1) = False := eq_false (by omega)
 have zh1 := size_v h1
 obtain ⟨h2, eh2⟩ : ∃ t, h1 ++ m.name = t := ⟨_, rfl⟩
 have ah2 := app_v (h1) (m.name)
 rw [eh2] at ah2
 have lh2 : h2.length = h1.length + m.name.length := by rw [← eh2, List.length_append]; try simp
 have kh2 : (9223372036854775807 < h1.length + m.name.length) = False := eq_false (by omega)
 have zh2 := size_v h2
 have hTT : h2 = T := by rw [← hT, ← eh2, ← eh1]; simp
 subst hTT
 have hgl : ¬ g = w.heap.size := by omega
 have hgl' : ¬ g' = w.heap.size := by omega
 have hgl2 : ¬ g' = w.heap.size + 1 := by omega
 have hnn : ((i : Int) ≤ (n : Int)) := by omega
 clear hb hm hM hK h hT eh1 eh2 lh1 lh2
 go_enter Tryz.func28, Tryz.ntmps28
 go_wp2_with fail
 go_quiet (fail)
 go_wp2_with fail
 go_ret
 exact ⟨rfl, by first | exact (brefl w).alloc (Nat.le_refl _) _ | exact below_drewN ((brefl w).alloc (Nat.le_refl _) _) _⟩
end Go.Proofs.YtckjakojllcdoaaGreatDoor
