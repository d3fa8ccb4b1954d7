/- FractionTexts: Text and Parse, and their errors, are those of the reference; for every input the law returns true. The listed library variables are tied to the program text. -/
import Derived.Deep.RegionHeld3
import Derived.Deep.DrawnRows
import Derived.ChangeMaps5
import Derived.Test.YtkpjhmpjihchpaaGreatDoorXL1
set_option linter.unusedVariables false
set_option maxHeartbeats 8000000
set_option maxRecDepth 100000
namespace Go.Proofs.YtkpjhmpjihchpaaGreatDoor
open Go Go.RowKit Bn

theorem r_parse_big (w : World) (l : List UInt8) (hl : 65536 < l.length) :
  Calls Tryz.prog 103 #[strV l] w (RetIe w (.int .i64 4) 0 0) := by
 have hsz := size_v l
 go_enter Tryz.func103, Tryz.ntmps103
 go_wp2
 refine bodyPost_ret (v := .tuple #[.agg #[.bool false, .slice none 0 0], .int .i64 4]) (by simp [results, Tryz.results103, go_sem, *] <;> first | rfl | exact ⟨rfl, rfl⟩) rfl ?_
 exact ⟨_, _, _, _, rfl, IV.zero _ _, ((brefl w).alloc (Nat.le_refl _) _)⟩
theorem r_times_n (w : World) (A : Option Addr) (n c x : Nat) (wa : Wd w A n c (digs x)) (hn : n ≤ 1099511627776) (g : Nat) (z : Int) (y : Nat) (hz : z = y) (hy : y < 4294967296) (hb : Blk w g 102 #[.int .u32 z]) :
    Calls Tryz.prog 148 #[.slice A n c, .slice (some ⟨g, 0, none⟩) 1 1] w (RetL w (digs (x * y))) := by
  subst hz
  have h1 : Wd w (some ⟨g, 0, none⟩) 1 1 [y] := Blk.wdN (l := [y]) hb (by intro x hx; simp at hx; omega) rfl
  have := r_times_c w A n c (digs x) wa hn (some ⟨g, 0, none⟩) 1 1 [y] h1 (by omega)
  rw [val_digs, show val [y] = y by simp [val]] at this
  exact this
theorem r_plus_n (w : World) (A : Option Addr) (n c x : Nat) (wa : Wd w A n c (digs x)) (hn : n ≤ 1099511627776) (g : Nat) (z : Int) (y : Nat) (hz : z = y) (hy : y < 4294967296) (hb : Blk w g 102 #[.int .u32 z]) :
    Calls Tryz.prog 147 #[.slice A n c, .slice (some ⟨g, 0, none⟩) 1 1] w (RetL w (digs (x + y))) := by
  subst hz
  have h1 : Wd w (some ⟨g, 0, none⟩) 1 1 [y] := Blk.wdN (l := [y]) hb (by intro x hx; simp at hx; omega) rfl
  have := r_plus_c w A n c (digs x) wa hn (some ⟨g, 0, none⟩) 1 1 [y] h1 (by omega)
  rw [val_digs, show val [y] = y by simp [val]] at this
  exact this
theorem head_cases (l : List UInt8) : (headM l = true ∧ l = 45 :: tailS l) ∨ (headM l = false ∧ tailS l = l) := by
  cases l with
  | nil => exact .inr ⟨rfl, rfl⟩
  | cons x r =>
    by_cases h : x = 45
    · subst h; exact .inl ⟨rfl, rfl⟩
    · refine .inr ⟨?_, ?_⟩
      · unfold headM; split
        · rename_i h1; injection h1 with h2; exact absurd h2 h
        · rfl
      · unfold tailS; split
        · rename_i h1; injection h1 with h2; exact absurd h2 h
        · rfl
def AnyW (_ : World) : Prop := True
theorem anyW (w : World) : AnyW w := True.intro
def RParseI (T : List UInt8) (W0 wr : World) (mv iv : Value) : Prop := ∃ k A1 n1 c1, iv = .int .i64 (k : Nat) ∧ mv = .slice A1 n1 c1 ∧ n1 ≤ 65536 ∧ k ≤ T.length ∧ Kept ((T.take k).all isDg = true ∧ Wd wr A1 n1 c1 (digs (decVal (T.take k)))) ∧ Below W0.heap.size W0 wr
theorem RetP.bad {w w' : World} {T : List UInt8} {m : Bool} {k : Nat} {e : Ending} (h : ¬ T.all isDg = true) (hr : RetIe w (.int .i64 2) 0 0 e w') : RetP w T m k e w' := by
  unfold RetP; rw [if_neg h]; exact hr
theorem r_parse_go (w : World) (l : List UInt8) (hl : l.length ≤ 65536) (m : Bool) (T : List UInt8) (hm : headM l = m) (hT : tailS l = T) (h0 : T ≠ []) (h2 : ¬ (T.head? = some 48 ∧ (1 < T.length ∨ m = true))) :
    Calls Tryz.prog 103 #[strV l] w (RetP w T m l.length) := by
  have hsz := size_v l
  have htl2 := tailS_len l
  rw [hT] at htl2
  have htl := Nat.le_trans htl2 hl
  have b0 : Below w.heap.size w (w.alloc (.cells #[.bool false, .slice none 0 0] 46)) := (brefl w).alloc (Nat.le_refl _) _
  have x0 : Blk (w.alloc (.cells #[.bool false, .slice none 0 0] 46)) w.heap.size 46 #[.bool false, .slice none 0 0] := blkAt _ _ _ rfl
  obtain ⟨c, r, hcr⟩ := List.exists_cons_of_ne_nil h0
  have hcase : c ≠ 48 ∨ (c = 48 ∧ T.length = 1 ∧ m = false) := by
    by_cases hc : c = 48
    · refine .inr ⟨hc, ?_, ?_⟩
      · subst hcr
        cases r with
        | nil => rfl
        | cons d rs => exact absurd ⟨by rw [hc]; rfl, .inl (by simp)⟩ h2
      · subst hcr
        cases m with
        | false => rfl
        | true => exact absurd ⟨by rw [hc]; rfl, .inr rfl⟩ h2
    · exact .inl hc
  have hszT := size_v T
  have HL2 := Lib.hid htl2
  have hgetT : ∀ h, (⟨T.toArray⟩ : ByteArray)[0]'h = c := fun h => by subst hcr; rfl
  have hTp : 0 < T.length := List.length_pos_iff.2 h0
  have hTb : ((T.length : Int) == 0) = false := by simp; exact h0
  have hlp : 0 < l.length := by omega
  have HM := Lib.hid (And.intro hm hT)
  have hlm : (m = true → l = 45 :: T) ∧ (m = false → l = T) := by
    rcases head_cases l with ⟨a, b⟩ | ⟨a, b⟩
    · rw [hT] at b; exact ⟨fun _ => b, fun h => (by rw [← hm, a] at h; cases h)⟩
    · rw [hT] at b; exact ⟨fun h => (by rw [← hm, a] at h; cases h), fun _ => b.symm⟩
  have hc45 : m = false → c ≠ 45 := fun h e => by
    have h9 := hlm.2 h
    rw [h9, hcr, e, h] at hm
    exact absurd hm (by simp [headM])
  clear h2 hm hT hcr
  have hcn : c ≠ 48 → c.toNat ≠ 48 := fun h e => h (UInt8.toNat.inj e)
  cases m with
  | true =>
    have hc : c ≠ 48 := by
      rcases hcase with h | ⟨_, _, h⟩
      · exact h
      · cases h
    have hl5 := hlm.1 rfl
    have hgetl : ∀ h, (⟨l.toArray⟩ : ByteArray)[0]'h = 45 := fun h => by subst hl5; rfl
    have e1 : (⟨l.toArray⟩ : ByteArray).extract 1 l.length = ⟨T.toArray⟩ := by rw [ext_v, hl5]; simp
    have hl1 : 1 < l.length := by rw [hl5]; simp; exact hTp
    replace hcn := hcn hc
    have hcz : ¬ (c.toNat : Int) = 48 := by omega
    have hcb : ((c.toNat : Int) == 48) = false := by simp; omega
    clear hcase hl5 hlm
    go_enter Tryz.func103, Tryz.ntmps103
    go_wp2
    clear hgetl hgetT e1 hcz hcb hcn hc hl1 h0
    go_loopw [6, 42] (fun mv iv wr => RParseI T (w.alloc (.cells #[.bool false, .slice none 0 0] 46)) wr mv iv) (fun _ iv _ => T.length - (intOf iv).toNat)
    case atStart => exact ⟨0, none, 0, 0, rfl, rfl, by omega, Nat.zero_le _, ⟨rfl, by rw [List.take_zero, show decVal [] = 0 from rfl, digs_zero]; exact Wd.nil_ _⟩, brefl _⟩
    case round =>
      obtain ⟨k, A1, n1, c1, rfl, rfl, hn1, hk, hK, rr⟩ := hrel
      have bw := b0.trans (rr.mono b0.size)
      by_cases hkT : k = T.length
      · subst hkT
        rw [List.take_length] at hK
        have x4 : Blk wr w.heap.size 46 #[.bool false, .slice none 0 0] := x0.below rr x0.lt
        go_wp2_with (go_at_call 133; (with_reducible refine (r_form_e _ true A1 n1 c1 (digs (decVal T)) (-(decVal T : Int)) ?_ ?_ ?_).mono ?_); (exact hK.2); omega; (rw [val_digs]; rfl); rintro e w5 ⟨A5, n5, c5, rfl, h5, hb5⟩; have b5 := bw.trans (hb5.mono bw.size); have x5 := x4.below hb5 x4.lt; obtain ⟨d0, d1⟩ := x5.c2; obtain ⟨f0, f1⟩ := x5.f2)
        refine bodyPost_ret (v := .tuple #[.agg #[.bool _, .slice A5 n5 c5], .int .i64 0]) (by simp [results, Tryz.results103, go_sem, *] <;> first | rfl | exact ⟨rfl, rfl⟩) rfl ?_
        refine RetP.good hK.1 ⟨_, _, _, _, rfl, IV.mk_ (h5.keep (kp2 ⟨_, _, x5⟩ (by decide) _ _ _ _)) rfl ?_, (b5.setCell (by dsimp only; omega) _).setCell (by dsimp only; omega) _⟩
        have h9 := Nat.lt_of_lt_of_le (decVal_words hK.1) (Nat.pow_le_pow_right (by omega) HL2.out)
        omega
      · have hkl : k < T.length := by omega
        obtain ⟨d, hd⟩ : ∃ d, T[k] = d := ⟨_, rfl⟩
        have hget : ∀ h, (⟨T.toArray⟩ : ByteArray)[k]'h = d := fun h => hd
        have hts : T.take (k + 1) = T.take k ++ [d] := by rw [List.take_succ_eq_append_getElem hkl, hd]
        have HTS := Lib.hid hts
        by_cases hdg : isDg d = true
        · have h8 : 48 ≤ d.toNat ∧ d.toNat ≤ 57 := by unfold isDg at hdg; rw [Bool.and_eq_true, decide_eq_true_eq, decide_eq_true_eq] at hdg; exact hdg
          obtain ⟨dn, hdn⟩ : ∃ dn, d.toNat = dn := ⟨_, rfl⟩
          obtain ⟨v, hv⟩ : ∃ v, dn - 48 = v := ⟨_, rfl⟩
          rw [hdn] at h8
          have e1 : (dn : Int) - 48 = (v : Int) := by omega
          have hv9 : v ≤ 9 := by omega
          have h81 := h8.1
          have h82 := h8.2
          have HD := Lib.hid (show dval d = v by unfold dval; rw [hdn]; exact hv)
          have HDG := Lib.hid hdg
          have hw8 : IntKind.u8.wrap (v : Int) = (v : Int) := IntWalk.u8_in _ ⟨by omega, by omega⟩
          have hw32 : IntKind.u32.wrap (v : Int) = (v : Int) := IntWalk.u32_in _ ⟨by omega, by omega⟩
          clear hd hts hdg hv hkT h8
          go_wp2_with fail
          go_region_held3 (fun w' => AnyW w') (exact anyW _) (first
            | (go_at_call 148; (with_reducible refine (r_times_n _ A1 n1 c1 (decVal (T.take k)) ?_ ?_ _ 10 10 ?_ ?_ ?_).mono ?_); (exact hK.2.belw (by first | exact (brefl wr).drew.alloc (by simp) _ | exact ((brefl wr).drew.alloc (by simp) _).alloc (by simp) _ | fail)); omega; rfl; omega; (first | exact blkAt _ _ _ (by simp) | exact (blkAt _ _ _ (by simp)).alloc _ | exact (blkAt _ _ _ (by simp)).drew | exact ((blkAt _ _ _ (by simp)).alloc _).drew | fail); rintro e w6 ⟨A6, n6, c6, rfl, h6, hb6⟩; have hn6 : n6 ≤ 1000000000 := (by have h9 := h6.2.1; rw [h9]; refine Nat.le_trans (length_digs_le (k := n1 + 1) ?_) (by omega); have h8 := hK.2.vlt (Nat.le_refl _); rw [val_digs] at h8; rw [Nat.pow_succ]; exact Nat.mul_lt_mul'' h8 (by omega)); have b6 : Below wr.heap.size wr w6 := (by first | exact ((brefl wr).drew.alloc (by simp) _).trans (hb6.mono (by simp)) | exact (((brefl wr).drew.alloc (by simp) _).alloc (by simp) _).trans (hb6.mono (by simp <;> omega)) | fail))
            | (go_at_call 147; (with_reducible refine (r_plus_n _ A6 n6 c6 (decVal (T.take k) * 10) ?_ ?_ _ (v : Int) v ?_ ?_ ?_).mono ?_); (first | exact h6 | exact h6.belw ((brefl w6).alloc (Nat.le_refl _) _)); omega; rfl; omega; (first | exact blkAt _ _ _ (by simp) | exact (blkAt _ _ _ (by simp)).below hb6 (by simp) | exact ((blkAt _ _ _ (by simp)).alloc _).below hb6 (by simp <;> omega) | exact (blkAt _ _ _ (by simp)).drew.below hb6 (by simp) | exact ((blkAt _ _ _ (by simp)).alloc _).drew.below hb6 (by simp <;> omega) | exact ((blkAt _ _ _ (by simp)).alloc _).drew.below hb6 (by simp) | fail); rintro e w7 ⟨A7, n7, c7, rfl, h7, hb7⟩; have b7 : Below wr.heap.size wr w7 := (by first | exact b6.trans (hb7.mono b6.size) | exact (b6.alloc b6.size _).trans (hb7.mono (by have := b6.size; simp; omega)) | fail)))
          all_goals
            clear hw8 hw32 e1
            go_wp2
            go_roundw
            case rel =>
              have hall : (T.take (k + 1)).all isDg = true := by rw [HTS.out, List.all_append, hK.1, List.all_cons, HDG.out]; rfl
              refine ⟨k + 1, A7, n7, c7, by go_num, rfl, ?_, hkl, ⟨hall, by rw [HTS.out, decVal_snoc, HD.out]; exact h7⟩, rr.trans (b7.mono rr.size)⟩
              have h9 := decVal_lt hall
              rw [HTS.out, decVal_snoc, HD.out] at h9
              rw [h7.2.1]
              refine Nat.le_trans (length_digs_le (Nat.lt_of_lt_of_le h9 (len_ten _))) ?_
              rw [← HTS.out, List.length_take]; omega
            case measure => simp [intOf]; omega
        · have hnall : ¬ T.all isDg = true := fun h => hdg (List.all_eq_true.1 h d (by rw [← hd]; exact List.getElem_mem _))
          have x4 : Blk wr w.heap.size 46 #[.bool false, .slice none 0 0] := x0.below rr x0.lt
          obtain ⟨d0, d1⟩ := x4.c2
          obtain ⟨f0, f1⟩ := x4.f2
          have hor : d.toNat < 48 ∨ (48 ≤ d.toNat ∧ 57 < d.toNat) := by
            unfold isDg at hdg; simp at hdg; omega
          obtain ⟨dn, hdn⟩ : ∃ dn, d.toNat = dn := ⟨_, rfl⟩
          rw [hdn] at hor
          have HN := Lib.hid hnall
          clear hd hts hdg hkT hnall
          rcases hor with h8 | ⟨h8, h82⟩
          all_goals
            go_wp2
            refine bodyPost_ret (v := .tuple #[.agg #[.bool false, .slice none 0 0], .int .i64 2]) (by simp [results, Tryz.results103, go_sem, *] <;> first | rfl | exact ⟨rfl, rfl⟩) rfl ?_
            exact RetP.bad HN.out ⟨_, _, _, _, rfl, IV.zero _ _, (bw.setCell (by dsimp only; omega) _).setCell (by dsimp only; omega) _⟩
  | false =>
    have hl0 : T = l := (hlm.2 rfl).symm
    subst hl0
    have h45 := hc45 rfl
    clear hlm hc45
    rcases hcase with hc | ⟨hc, hT1, _⟩
    · replace hcn := hcn hc
      have hcz : ¬ (c.toNat : Int) = 48 := by omega
      have hcb : ((c.toNat : Int) == 48) = false := by simp; omega
      have h5n : c.toNat ≠ 45 := fun e => h45 (UInt8.toNat.inj e)
      have hz5 : ¬ (c.toNat : Int) = 45 := by omega
      have hb5x : ((c.toNat : Int) == 45) = false := by simp; omega
      go_enter Tryz.func103, Tryz.ntmps103
      go_wp2
      clear hgetT hcz hcb hcn hc h0 hz5 hb5x h45
      go_loopw [6, 42] (fun mv iv wr => RParseI T (w.alloc (.cells #[.bool false, .slice none 0 0] 46)) wr mv iv) (fun _ iv _ => T.length - (intOf iv).toNat)
      case atStart => exact ⟨0, none, 0, 0, rfl, rfl, by omega, Nat.zero_le _, ⟨rfl, by rw [List.take_zero, show decVal [] = 0 from rfl, digs_zero]; exact Wd.nil_ _⟩, brefl _⟩
      case round =>
        obtain ⟨k, A1, n1, c1, rfl, rfl, hn1, hk, hK, rr⟩ := hrel
        have bw := b0.trans (rr.mono b0.size)
        by_cases hkT : k = T.length
        · subst hkT
          rw [List.take_length] at hK
          have x4 : Blk wr w.heap.size 46 #[.bool false, .slice none 0 0] := x0.below rr x0.lt
          go_wp2_with (go_at_call 133; (with_reducible refine (r_form_e _ false A1 n1 c1 (digs (decVal T)) (decVal T : Int) ?_ ?_ ?_).mono ?_); (exact hK.2); omega; (rw [val_digs]; rfl); rintro e w5 ⟨A5, n5, c5, rfl, h5, hb5⟩; have b5 := bw.trans (hb5.mono bw.size); have x5 := x4.below hb5 x4.lt; obtain ⟨d0, d1⟩ := x5.c2; obtain ⟨f0, f1⟩ := x5.f2)
          refine bodyPost_ret (v := .tuple #[.agg #[.bool _, .slice A5 n5 c5], .int .i64 0]) (by simp [results, Tryz.results103, go_sem, *] <;> first | rfl | exact ⟨rfl, rfl⟩) rfl ?_
          refine RetP.good hK.1 ⟨_, _, _, _, rfl, IV.mk_ (h5.keep (kp2 ⟨_, _, x5⟩ (by decide) _ _ _ _)) rfl ?_, (b5.setCell (by dsimp only; omega) _).setCell (by dsimp only; omega) _⟩
          have h9 := Nat.lt_of_lt_of_le (decVal_words hK.1) (Nat.pow_le_pow_right (by omega) HL2.out)
          omega
        · have hkl : k < T.length := by omega
          obtain ⟨d, hd⟩ : ∃ d, T[k] = d := ⟨_, rfl⟩
          have hget : ∀ h, (⟨T.toArray⟩ : ByteArray)[k]'h = d := fun h => hd
          have hts : T.take (k + 1) = T.take k ++ [d] := by rw [List.take_succ_eq_append_getElem hkl, hd]
          have HTS := Lib.hid hts
          by_cases hdg : isDg d = true
          · have h8 : 48 ≤ d.toNat ∧ d.toNat ≤ 57 := by unfold isDg at hdg; rw [Bool.and_eq_true, decide_eq_true_eq, decide_eq_true_eq] at hdg; exact hdg
            obtain ⟨dn, hdn⟩ : ∃ dn, d.toNat = dn := ⟨_, rfl⟩
            obtain ⟨v, hv⟩ : ∃ v, dn - 48 = v := ⟨_, rfl⟩
            rw [hdn] at h8
            have e1 : (dn : Int) - 48 = (v : Int) := by omega
            have hv9 : v ≤ 9 := by omega
            have h81 := h8.1
            have h82 := h8.2
            have HD := Lib.hid (show dval d = v by unfold dval; rw [hdn]; exact hv)
            have HDG := Lib.hid hdg
            have hw8 : IntKind.u8.wrap (v : Int) = (v : Int) := IntWalk.u8_in _ ⟨by omega, by omega⟩
            have hw32 : IntKind.u32.wrap (v : Int) = (v : Int) := IntWalk.u32_in _ ⟨by omega, by omega⟩
            clear hd hts hdg hv hkT h8
            go_wp2_with fail
            go_region_held3 (fun w' => AnyW w') (exact anyW _) (first
              | (go_at_call 148; (with_reducible refine (r_times_n _ A1 n1 c1 (decVal (T.take k)) ?_ ?_ _ 10 10 ?_ ?_ ?_).mono ?_); (exact hK.2.belw (by first | exact (brefl wr).drew.alloc (by simp) _ | exact ((brefl wr).drew.alloc (by simp) _).alloc (by simp) _ | fail)); omega; rfl; omega; (first | exact blkAt _ _ _ (by simp) | exact (blkAt _ _ _ (by simp)).alloc _ | exact (blkAt _ _ _ (by simp)).drew | exact ((blkAt _ _ _ (by simp)).alloc _).drew | fail); rintro e w6 ⟨A6, n6, c6, rfl, h6, hb6⟩; have hn6 : n6 ≤ 1000000000 := (by have h9 := h6.2.1; rw [h9]; refine Nat.le_trans (length_digs_le (k := n1 + 1) ?_) (by omega); have h8 := hK.2.vlt (Nat.le_refl _); rw [val_digs] at h8; rw [Nat.pow_succ]; exact Nat.mul_lt_mul'' h8 (by omega)); have b6 : Below wr.heap.size wr w6 := (by first | exact ((brefl wr).drew.alloc (by simp) _).trans (hb6.mono (by simp)) | exact (((brefl wr).drew.alloc (by simp) _).alloc (by simp) _).trans (hb6.mono (by simp <;> omega)) | fail))
              | (go_at_call 147; (with_reducible refine (r_plus_n _ A6 n6 c6 (decVal (T.take k) * 10) ?_ ?_ _ (v : Int) v ?_ ?_ ?_).mono ?_); (first | exact h6 | exact h6.belw ((brefl w6).alloc (Nat.le_refl _) _)); omega; rfl; omega; (first | exact blkAt _ _ _ (by simp) | exact (blkAt _ _ _ (by simp)).below hb6 (by simp) | exact ((blkAt _ _ _ (by simp)).alloc _).below hb6 (by simp <;> omega) | exact (blkAt _ _ _ (by simp)).drew.below hb6 (by simp) | exact ((blkAt _ _ _ (by simp)).alloc _).drew.below hb6 (by simp <;> omega) | exact ((blkAt _ _ _ (by simp)).alloc _).drew.below hb6 (by simp) | fail); rintro e w7 ⟨A7, n7, c7, rfl, h7, hb7⟩; have b7 : Below wr.heap.size wr w7 := (by first | exact b6.trans (hb7.mono b6.size) | exact (b6.alloc b6.size _).trans (hb7.mono (by have := b6.size; simp; omega)) | fail)))
            all_goals
              clear hw8 hw32 e1
              go_wp2
              go_roundw
              case rel =>
                have hall : (T.take (k + 1)).all isDg = true := by rw [HTS.out, List.all_append, hK.1, List.all_cons, HDG.out]; rfl
                refine ⟨k + 1, A7, n7, c7, by go_num, rfl, ?_, hkl, ⟨hall, by rw [HTS.out, decVal_snoc, HD.out]; exact h7⟩, rr.trans (b7.mono rr.size)⟩
                have h9 := decVal_lt hall
                rw [HTS.out, decVal_snoc, HD.out] at h9
                rw [h7.2.1]
                refine Nat.le_trans (length_digs_le (Nat.lt_of_lt_of_le h9 (len_ten _))) ?_
                rw [← HTS.out, List.length_take]; omega
              case measure => simp [intOf]; omega
          · have hnall : ¬ T.all isDg = true := fun h => hdg (List.all_eq_true.1 h d (by rw [← hd]; exact List.getElem_mem _))
            have x4 : Blk wr w.heap.size 46 #[.bool false, .slice none 0 0] := x0.below rr x0.lt
            obtain ⟨d0, d1⟩ := x4.c2
            obtain ⟨f0, f1⟩ := x4.f2
            have hor : d.toNat < 48 ∨ (48 ≤ d.toNat ∧ 57 < d.toNat) := by
              unfold isDg at hdg; simp at hdg; omega
            obtain ⟨dn, hdn⟩ : ∃ dn, d.toNat = dn := ⟨_, rfl⟩
            rw [hdn] at hor
            have HN := Lib.hid hnall
            clear hd hts hdg hkT hnall
            rcases hor with h8 | ⟨h8, h82⟩
            all_goals
              go_wp2
              refine bodyPost_ret (v := .tuple #[.agg #[.bool false, .slice none 0 0], .int .i64 2]) (by simp [results, Tryz.results103, go_sem, *] <;> first | rfl | exact ⟨rfl, rfl⟩) rfl ?_
              exact RetP.bad HN.out ⟨_, _, _, _, rfl, IV.zero _ _, (bw.setCell (by dsimp only; omega) _).setCell (by dsimp only; omega) _⟩
    · subst hc
      have hT2 : ¬ 1 < T.length := by omega
      have hT3 : ¬ (1 : Int) < (T.length : Int) := by omega
      clear hT1
      go_enter Tryz.func103, Tryz.ntmps103
      go_wp2
      clear hgetT hcn h0 hT3
      go_loopw [6, 42] (fun mv iv wr => RParseI T (w.alloc (.cells #[.bool false, .slice none 0 0] 46)) wr mv iv) (fun _ iv _ => T.length - (intOf iv).toNat)
      case atStart => exact ⟨0, none, 0, 0, rfl, rfl, by omega, Nat.zero_le _, ⟨rfl, by rw [List.take_zero, show decVal [] = 0 from rfl, digs_zero]; exact Wd.nil_ _⟩, brefl _⟩
      case round =>
        obtain ⟨k, A1, n1, c1, rfl, rfl, hn1, hk, hK, rr⟩ := hrel
        have bw := b0.trans (rr.mono b0.size)
        by_cases hkT : k = T.length
        · subst hkT
          rw [List.take_length] at hK
          have x4 : Blk wr w.heap.size 46 #[.bool false, .slice none 0 0] := x0.below rr x0.lt
          go_wp2_with (go_at_call 133; (with_reducible refine (r_form_e _ false A1 n1 c1 (digs (decVal T)) (decVal T : Int) ?_ ?_ ?_).mono ?_); (exact hK.2); omega; (rw [val_digs]; rfl); rintro e w5 ⟨A5, n5, c5, rfl, h5, hb5⟩; have b5 := bw.trans (hb5.mono bw.size); have x5 := x4.below hb5 x4.lt; obtain ⟨d0, d1⟩ := x5.c2; obtain ⟨f0, f1⟩ := x5.f2)
          refine bodyPost_ret (v := .tuple #[.agg #[.bool _, .slice A5 n5 c5], .int .i64 0]) (by simp [results, Tryz.results103, go_sem, *] <;> first | rfl | exact ⟨rfl, rfl⟩) rfl ?_
          refine RetP.good hK.1 ⟨_, _, _, _, rfl, IV.mk_ (h5.keep (kp2 ⟨_, _, x5⟩ (by decide) _ _ _ _)) rfl ?_, (b5.setCell (by dsimp only; omega) _).setCell (by dsimp only; omega) _⟩
          have h9 := Nat.lt_of_lt_of_le (decVal_words hK.1) (Nat.pow_le_pow_right (by omega) HL2.out)
          omega
        · have hkl : k < T.length := by omega
          obtain ⟨d, hd⟩ : ∃ d, T[k] = d := ⟨_, rfl⟩
          have hget : ∀ h, (⟨T.toArray⟩ : ByteArray)[k]'h = d := fun h => hd
          have hts : T.take (k + 1) = T.take k ++ [d] := by rw [List.take_succ_eq_append_getElem hkl, hd]
          have HTS := Lib.hid hts
          by_cases hdg : isDg d = true
          · have h8 : 48 ≤ d.toNat ∧ d.toNat ≤ 57 := by unfold isDg at hdg; rw [Bool.and_eq_true, decide_eq_true_eq, decide_eq_true_eq] at hdg; exact hdg
            obtain ⟨dn, hdn⟩ : ∃ dn, d.toNat = dn := ⟨_, rfl⟩
            obtain ⟨v, hv⟩ : ∃ v, dn - 48 = v := ⟨_, rfl⟩
            rw [hdn] at h8
            have e1 : (dn : Int) - 48 = (v : Int) := by omega
            have hv9 : v ≤ 9 := by omega
            have h81 := h8.1
            have h82 := h8.2
            have HD := Lib.hid (show dval d = v by unfold dval; rw [hdn]; exact hv)
            have HDG := Lib.hid hdg
            have hw8 : IntKind.u8.wrap (v : Int) = (v : Int) := IntWalk.u8_in _ ⟨by omega, by omega⟩
            have hw32 : IntKind.u32.wrap (v : Int) = (v : Int) := IntWalk.u32_in _ ⟨by omega, by omega⟩
            clear hd hts hdg hv hkT h8
            go_wp2_with fail
            go_region_held3 (fun w' => AnyW w') (exact anyW _) (first
              | (go_at_call 148; (with_reducible refine (r_times_n _ A1 n1 c1 (decVal (T.take k)) ?_ ?_ _ 10 10 ?_ ?_ ?_).mono ?_); (exact hK.2.belw (by first | exact (brefl wr).drew.alloc (by simp) _ | exact ((brefl wr).drew.alloc (by simp) _).alloc (by simp) _ | fail)); omega; rfl; omega; (first | exact blkAt _ _ _ (by simp) | exact (blkAt _ _ _ (by simp)).alloc _ | exact (blkAt _ _ _ (by simp)).drew | exact ((blkAt _ _ _ (by simp)).alloc _).drew | fail); rintro e w6 ⟨A6, n6, c6, rfl, h6, hb6⟩; have hn6 : n6 ≤ 1000000000 := (by have h9 := h6.2.1; rw [h9]; refine Nat.le_trans (length_digs_le (k := n1 + 1) ?_) (by omega); have h8 := hK.2.vlt (Nat.le_refl _); rw [val_digs] at h8; rw [Nat.pow_succ]; exact Nat.mul_lt_mul'' h8 (by omega)); have b6 : Below wr.heap.size wr w6 := (by first | exact ((brefl wr).drew.alloc (by simp) _).trans (hb6.mono (by simp)) | exact (((brefl wr).drew.alloc (by simp) _).alloc (by simp) _).trans (hb6.mono (by simp <;> omega)) | fail))
              | (go_at_call 147; (with_reducible refine (r_plus_n _ A6 n6 c6 (decVal (T.take k) * 10) ?_ ?_ _ (v : Int) v ?_ ?_ ?_).mono ?_); (first | exact h6 | exact h6.belw ((brefl w6).alloc (Nat.le_refl _) _)); omega; rfl; omega; (first | exact blkAt _ _ _ (by simp) | exact (blkAt _ _ _ (by simp)).below hb6 (by simp) | exact ((blkAt _ _ _ (by simp)).alloc _).below hb6 (by simp <;> omega) | exact (blkAt _ _ _ (by simp)).drew.below hb6 (by simp) | exact ((blkAt _ _ _ (by simp)).alloc _).drew.below hb6 (by simp <;> omega) | exact ((blkAt _ _ _ (by simp)).alloc _).drew.below hb6 (by simp) | fail); rintro e w7 ⟨A7, n7, c7, rfl, h7, hb7⟩; have b7 : Below wr.heap.size wr w7 := (by first | exact b6.trans (hb7.mono b6.size) | exact (b6.alloc b6.size _).trans (hb7.mono (by have := b6.size; simp; omega)) | fail)))
            all_goals
              clear hw8 hw32 e1
              go_wp2
              go_roundw
              case rel =>
                have hall : (T.take (k + 1)).all isDg = true := by rw [HTS.out, List.all_append, hK.1, List.all_cons, HDG.out]; rfl
                refine ⟨k + 1, A7, n7, c7, by go_num, rfl, ?_, hkl, ⟨hall, by rw [HTS.out, decVal_snoc, HD.out]; exact h7⟩, rr.trans (b7.mono rr.size)⟩
                have h9 := decVal_lt hall
                rw [HTS.out, decVal_snoc, HD.out] at h9
                rw [h7.2.1]
                refine Nat.le_trans (length_digs_le (Nat.lt_of_lt_of_le h9 (len_ten _))) ?_
                rw [← HTS.out, List.length_take]; omega
              case measure => simp [intOf]; omega
          · have hnall : ¬ T.all isDg = true := fun h => hdg (List.all_eq_true.1 h d (by rw [← hd]; exact List.getElem_mem _))
            have x4 : Blk wr w.heap.size 46 #[.bool false, .slice none 0 0] := x0.below rr x0.lt
            obtain ⟨d0, d1⟩ := x4.c2
            obtain ⟨f0, f1⟩ := x4.f2
            have hor : d.toNat < 48 ∨ (48 ≤ d.toNat ∧ 57 < d.toNat) := by
              unfold isDg at hdg; simp at hdg; omega
            obtain ⟨dn, hdn⟩ : ∃ dn, d.toNat = dn := ⟨_, rfl⟩
            rw [hdn] at hor
            have HN := Lib.hid hnall
            clear hd hts hdg hkT hnall
            rcases hor with h8 | ⟨h8, h82⟩
            all_goals
              go_wp2
              refine bodyPost_ret (v := .tuple #[.agg #[.bool false, .slice none 0 0], .int .i64 2]) (by simp [results, Tryz.results103, go_sem, *] <;> first | rfl | exact ⟨rfl, rfl⟩) rfl ?_
              exact RetP.bad HN.out ⟨_, _, _, _, rfl, IV.zero _ _, (bw.setCell (by dsimp only; omega) _).setCell (by dsimp only; omega) _⟩
theorem r_parse_zero (w : World) (l : List UInt8) (hl : l.length ≤ 65536) (h : tailS l = [] ∨ (tailS l ≠ [] ∧ (tailS l).head? = some 48 ∧ (1 < (tailS l).length ∨ headM l = true))) :
  Calls Tryz.prog 103 #[strV l] w (RetIe w (.int .i64 2) 0 0) := by
 have hsz := size_v l
 have b0 : Below w.heap.size w (w.alloc (.cells #[.bool false, .slice none 0 0] 46)) := (brefl w).alloc (Nat.le_refl _) _
 rcases h with h | ⟨h0, h1, h2⟩
 ·rcases head_cases l with ⟨a, b⟩ | ⟨a, b⟩
  ·rw [h] at b
   subst b
   clear h a hl
   go_enter Tryz.func103, Tryz.ntmps103
   go_wp2
   refine bodyPost_ret (v := .tuple #[.agg #[.bool false, .slice none 0 0], .int .i64 2]) (by simp [results, Tryz.results103, go_sem, *] <;> first | rfl | exact ⟨rfl, rfl⟩) rfl ?_
   exact ⟨_, _, _, _, rfl, IV.zero _ _, b0⟩
  ·rw [h] at b
   subst b
   clear h a hl
   go_enter Tryz.func103, Tryz.ntmps103
   go_wp2
   refine bodyPost_ret (v := .tuple #[.agg #[.bool false, .slice none 0 0], .int .i64 2]) (by simp [results, Tryz.results103, go_sem, *] <;> first | rfl | exact ⟨rfl, rfl⟩) rfl ?_
   exact ⟨_, _, _, _, rfl, IV.zero _ _, b0⟩
 ·obtain ⟨T, hT⟩ : ∃ T, tailS l = T := ⟨_, rfl⟩
  rw [hT] at h0 h1 h2
  obtain ⟨c, r, hcr⟩ := List.exists_cons_of_ne_nil h0
  have hc : c = 48 := by rw [hcr] at h1; simpa using h1
  subst hc
  have hszT := size_v T
  have hgetT : ∀ h, (⟨T.toArray⟩ : ByteArray)[0]'h = 48 := fun h => by subst hcr; rfl
  have hTp : 0 < T.length := List.length_pos_iff.2 h0
  have htl2 := tailS_len l
  rw [hT] at htl2
  have hlp : 0 < l.length := by omega
  rcases head_cases l with ⟨a, b⟩ | ⟨a, b⟩
  ·rw [hT] at b
   have hgetl : ∀ h, (⟨l.toArray⟩ : ByteArray)[0]'h = 45 := fun h => by subst b; rfl
   have e1 : (⟨l.toArray⟩ : ByteArray).extract 1 l.length = ⟨T.toArray⟩ := by rw [ext_v, b]; simp
   have hl1 : 1 < l.length := by rw [b]; simp; exact hTp
   clear hT h1 h2 a b hcr
   by_cases h3 : 1 < T.length
   ·have h4 : (1 : Int) < (T.length : Int) := by omega
    go_enter Tryz.func103, Tryz.ntmps103
    go_wp2
    refine bodyPost_ret (v := .tuple #[.agg #[.bool false, .slice none 0 0], .int .i64 2]) (by simp [results, Tryz.results103, go_sem, *] <;> first | rfl | exact ⟨rfl, rfl⟩) rfl ?_
    exact ⟨_, _, _, _, rfl, IV.zero _ _, b0⟩
   ·have h4 : ¬ (1 : Int) < (T.length : Int) := by omega
    go_enter Tryz.func103, Tryz.ntmps103
    go_wp2
    refine bodyPost_ret (v := .tuple #[.agg #[.bool false, .slice none 0 0], .int .i64 2]) (by simp [results, Tryz.results103, go_sem, *] <;> first | rfl | exact ⟨rfl, rfl⟩) rfl ?_
    exact ⟨_, _, _, _, rfl, IV.zero _ _, b0⟩
  ·rw [hT] at b
   have b' : T = l := b
   subst b'
   have h3 : 1 < T.length := by
    rcases h2 with h | h
    ·exact h
    ·rw [a] at h; cases h
   have h4 : (1 : Int) < (T.length : Int) := by omega
   clear hT h1 h2 a b hcr
   go_enter Tryz.func103, Tryz.ntmps103
   go_wp2
   refine bodyPost_ret (v := .tuple #[.agg #[.bool false, .slice none 0 0], .int .i64 2]) (by simp [results, Tryz.results103, go_sem, *] <;> first | rfl | exact ⟨rfl, rfl⟩) rfl ?_
   exact ⟨_, _, _, _, rfl, IV.zero _ _, b0⟩
theorem r_parse_ok (w : World) (l : List UInt8) (hl : l.length ≤ 65536) (hb : okZ l = true) : Calls Tryz.prog 103 #[strV l] w (RetIe w (.int .i64 0) (valZ l) l.length) := by
  obtain ⟨h0, h1, h2⟩ := okZ_parts hb
  refine (r_parse_go w l hl _ _ rfl rfl h0 h2).mono fun e w' h => ?_
  unfold RetP at h
  rw [if_pos h1] at h
  exact h
theorem r_parse_bad (w : World) (l : List UInt8) (hl : l.length ≤ 65536) (hb : okZ l = false) : Calls Tryz.prog 103 #[strV l] w (RetIe w (.int .i64 2) 0 0) := by
  rcases okZ_not hb with h | ⟨h0, h1⟩ | ⟨h0, h1, h2, h3⟩
  · exact r_parse_zero w l hl (.inl h)
  · by_cases h4 : (tailS l).head? = some 48 ∧ (1 < (tailS l).length ∨ headM l = true)
    · exact r_parse_zero w l hl (.inr ⟨h0, h4.1, h4.2⟩)
    · refine (r_parse_go w l hl _ _ rfl rfl h0 h4).mono fun e w' h => ?_
      unfold RetP at h
      rw [if_neg (by rw [h1]; simp)] at h
      exact h
  · exact r_parse_zero w l hl (.inr ⟨h0, h2, h3⟩)
end Go.Proofs.YtkpjhmpjihchpaaGreatDoor

namespace Go.Proofs.YtkpjhmpjihchpaaGreatDoor
open Go Go.RowKit Bn
attribute [local go_sem ↓] Go.wp_at_zero Go.wp_at_succ
theorem r01_parse_o (w : World) (l : List UInt8) (x z : Int) (h : ParseOut l x z) : Calls Tryz.prog 103 #[strV l] w (RetIe w (.int .i64 x) z 65536) := by
  rcases h with ⟨h1, rfl, rfl⟩ | ⟨h1, h2, rfl, rfl⟩ | ⟨h1, h2, rfl, rfl⟩
  · exact (r_parse_big w l h1).mono fun e w' r => r.mono (by omega)
  · exact (r_parse_bad w l h1 h2).mono fun e w' r => r.mono (by omega)
  · exact (r_parse_ok w l h1 h2).mono fun e w' r => r.mono (by omega)
theorem b_num_v (w : World) (x : Int) : Calls Tryz.prog 21 #[errV x] w (RetV w (.int .i64 x)) := by
  unfold errV
  split
  · rename_i h; subst h; exact b_num_nil w
  · exact b_num_err w x
end Go.Proofs.YtkpjhmpjihchpaaGreatDoor

namespace Go.Proofs.YtkpjhmpjihchpaaGreatDoor
open Go Go.RowKit Bn
attribute [local go_sem ↓] Go.wp_at_zero Go.wp_at_succ
theorem NI_lt2 {x i j : Nat} {B : List UInt8} (hx : x < 10 ^ j) (hB : (B.take i).all isDg = true) (hl : i ≤ B.length) (hj : j + B.length ≤ 64) : (NI (x : Int) B i).natAbs < 4294967296 ^ 64 := by
  have h1 : decVal (B.take i) < 10 ^ i := by
    have := decVal_lt hB
    rw [List.length_take, Nat.min_eq_left hl] at this
    exact this
  have h2 : NI (x : Int) B i = ((x * 10 ^ i + decVal (B.take i) : Nat) : Int) := by unfold NI; push_cast; rfl
  rw [h2, Int.natAbs_natCast]
  have h3 : x * 10 ^ i + decVal (B.take i) < 10 ^ (j + i) := by
    rw [Nat.pow_add]
    have : (x + 1) * 10 ^ i ≤ 10 ^ j * 10 ^ i := Nat.mul_le_mul_right _ hx
    rw [Nat.add_mul] at this
    omega
  have h4 : 10 ^ (j + i) ≤ 10 ^ 64 := Nat.pow_le_pow_right (by omega) (by omega)
  have h5 : (10 : Nat) ^ 64 < 4294967296 ^ 64 := by decide
  omega
theorem g_dec_1t (w : World) (F B : List UInt8) (N : Nat) (hF6 : F.length ≤ 65536) (hm : headM F = true) (ho : okZ (tailS F) = false) :
  Calls Tryz.prog 104 #[strV F, strV B, .int .i64 (N : Nat)] w (RetFe w (.int .i64 2) 0 64) := by
 have htlB := toList_v B
 have hszB := size_v B
 have hszF := size_v F
 obtain ⟨T, hT⟩ : ∃ T, tailS F = T := ⟨_, rfl⟩
 have hFT : F = 45 :: T := by
  rcases head_cases F with ⟨_, b⟩ | ⟨b, _⟩
  ·rw [hT] at b; exact b
  ·rw [hm] at b; cases b
 have hgetF : ∀ h, (⟨F.toArray⟩ : ByteArray)[0]'h = 45 := fun h => by subst hFT; rfl
 have e1 : (⟨F.toArray⟩ : ByteArray).extract 1 F.length = ⟨T.toArray⟩ := by rw [ext_v, hFT]; simp
 have hl1 : 1 ≤ F.length := by rw [hFT]; simp
 have hl0 : 0 < F.length := hl1
 have hTF : T.length ≤ F.length := by rw [hFT]; simp
 have HO := Lib.hid (show okZ T = false by rw [← hT]; exact ho)
 clear hT hFT hm ho
 go_enter Tryz.func104, Tryz.ntmps104
 go_wp2_with fail
 (with_reducible refine (r_parse_bad _ (T) (by omega) HO.out).mono ?_); rintro e w1 ⟨b1, A1, n1, c1, rfl, h1, hb1⟩
 have q1 := ((Below.refl _ _).alloc (Nat.le_refl _) _).trans (hb1.mono (by simp))
 have x1a : Blk w1 w.heap.size 24 #[.bool false, .slice none 0 0, .slice none 0 0] := (blkAt _ _ _ (by simp)).below hb1 (by simp)
 have bw1 := (brefl w).trans (q1.mono (brefl w).size)
 have lw1 : w.heap.size + 1 ≤ w1.heap.size := by have := hb1.size; simp at this; omega
 clear q1
 obtain ⟨cx1aa, cx1ab, cx1ac⟩ := x1a.c3
 obtain ⟨fx1aa, fx1ab, fx1ac⟩ := x1a.f3
 obtain ⟨lx1aa, lx1ab, lx1ac, lx1ad⟩ := lts0 x1a.lt
 go_wp2_with fail
 refine bodyPost_ret (v := .tuple #[.agg #[.bool false, .slice none 0 0, .slice none 0 0], .int .i64 2]) (by simp [results, Tryz.results104, go_sem, *] <;> first | rfl | exact ⟨rfl, rfl⟩) rfl ?_
 exact ⟨_, _, _, _, _, _, _, rfl, QV.zero _ _, ((((bw1.sc w.heap.size 0 (by omega) (.bool false)).sc w.heap.size 1 (by omega) (.slice none 0 0)).sc w.heap.size 2 (by omega) (.slice none 0 0)).alloc (by first | omega | (simp <;> omega)) (.cells #[.bool b1, .slice A1 n1 c1] 46))⟩
theorem g_dec_2t (w : World) (F B : List UInt8) (N : Nat) (hF6 : F.length ≤ 65536) (hm : headM F = true) (ho : okZ (tailS F) = true) (hs : (valZ (tailS F)).sign = -1) :
  Calls Tryz.prog 104 #[strV F, strV B, .int .i64 (N : Nat)] w (RetFe w (.int .i64 2) 0 64) := by
 have htlB := toList_v B
 have hszB := size_v B
 have hszF := size_v F
 obtain ⟨T, hT⟩ : ∃ T, tailS F = T := ⟨_, rfl⟩
 have hFT : F = 45 :: T := by
  rcases head_cases F with ⟨_, b⟩ | ⟨b, _⟩
  ·rw [hT] at b; exact b
  ·rw [hm] at b; cases b
 have hgetF : ∀ h, (⟨F.toArray⟩ : ByteArray)[0]'h = 45 := fun h => by subst hFT; rfl
 have e1 : (⟨F.toArray⟩ : ByteArray).extract 1 F.length = ⟨T.toArray⟩ := by rw [ext_v, hFT]; simp
 have hl1 : 1 ≤ F.length := by rw [hFT]; simp
 have hl0 : 0 < F.length := hl1
 have hTF : T.length ≤ F.length := by rw [hFT]; simp
 have HO := Lib.hid (show okZ T = true by rw [← hT]; exact ho)
 have HS := Lib.hid (show (valZ T).sign = -1 by rw [← hT]; exact hs)
 clear hs
 clear hT hFT hm ho
 go_enter Tryz.func104, Tryz.ntmps104
 go_wp2_with fail
 (with_reducible refine (r_parse_ok _ (T) (by omega) HO.out).mono ?_); rintro e w1 ⟨b1, A1, n1, c1, rfl, h1, hb1⟩
 have q1 := ((Below.refl _ _).alloc (Nat.le_refl _) _).trans (hb1.mono (by simp))
 have x1a : Blk w1 w.heap.size 24 #[.bool false, .slice none 0 0, .slice none 0 0] := (blkAt _ _ _ (by simp)).below hb1 (by simp)
 have bw1 := (brefl w).trans (q1.mono (brefl w).size)
 have lw1 : w.heap.size + 1 ≤ w1.heap.size := by have := hb1.size; simp at this; omega
 clear q1
 go_wp2_with fail
 (with_reducible refine (r01_sign_e _ b1 A1 n1 c1 (valZ T) (T.length) ?_ ((-1)) ?_ ?_).mono ?_); (exact (h1.belw ((Below.refl _ _).alloc (Nat.le_refl _) _)).iz); (exact HS.out); (omega); rintro e w2 ⟨rfl, hb2⟩
 have q2 := ((Below.refl _ _).alloc (Nat.le_refl _) _).trans (hb2.mono (by simp))
 replace h1 := h1.belw q2
 replace x1a := x1a.b q2
 have x2a : Blk w2 w1.heap.size 46 #[.bool b1, .slice A1 n1 c1] := (blkAt _ _ _ (by simp)).below hb2 (by simp)
 have bw2 := bw1.trans (q2.mono bw1.size)
 have lw2 : w1.heap.size + 1 ≤ w2.heap.size := by have := hb2.size; simp at this; omega
 clear q2 bw1
 obtain ⟨cx1aa, cx1ab, cx1ac⟩ := x1a.c3
 obtain ⟨fx1aa, fx1ab, fx1ac⟩ := x1a.f3
 obtain ⟨lx1aa, lx1ab, lx1ac, lx1ad⟩ := lts0 x1a.lt
 go_wp2_with fail
 refine bodyPost_ret (v := .tuple #[.agg #[.bool false, .slice none 0 0, .slice none 0 0], .int .i64 2]) (by simp [results, Tryz.results104, go_sem, *] <;> first | rfl | exact ⟨rfl, rfl⟩) rfl ?_
 exact ⟨_, _, _, _, _, _, _, rfl, QV.zero _ _, (((bw2.sc w.heap.size 0 (by omega) (.bool false)).sc w.heap.size 1 (by omega) (.slice none 0 0)).sc w.heap.size 2 (by omega) (.slice none 0 0))⟩
theorem g_dec_3t (w : World) (F B : List UInt8) (N : Nat) (hF6 : F.length ≤ 65536) (hm : headM F = true) (ho : okZ (tailS F) = true) (hs : 0 ≤ (valZ (tailS F)).sign) (hB : B.length = 0) :
  Calls Tryz.prog 104 #[strV F, strV B, .int .i64 (N : Nat)] w (RetFe w (.int .i64 2) 0 64) := by
 have htlB := toList_v B
 have hszB := size_v B
 have hszF := size_v F
 obtain ⟨T, hT⟩ : ∃ T, tailS F = T := ⟨_, rfl⟩
 have hFT : F = 45 :: T := by
  rcases head_cases F with ⟨_, b⟩ | ⟨b, _⟩
  ·rw [hT] at b; exact b
  ·rw [hm] at b; cases b
 have hgetF : ∀ h, (⟨F.toArray⟩ : ByteArray)[0]'h = 45 := fun h => by subst hFT; rfl
 have e1 : (⟨F.toArray⟩ : ByteArray).extract 1 F.length = ⟨T.toArray⟩ := by rw [ext_v, hFT]; simp
 have hl1 : 1 ≤ F.length := by rw [hFT]; simp
 have hl0 : 0 < F.length := hl1
 have hTF : T.length ≤ F.length := by rw [hFT]; simp
 have HO := Lib.hid (show okZ T = true by rw [← hT]; exact ho)
 obtain ⟨s, hs1⟩ : ∃ s, (valZ T).sign = s := ⟨_, rfl⟩
 have es : (s < 0) = False := by simp; rw [← hs1, ← hT]; exact hs
 have HS := Lib.hid hs1
 have hBz : ((B.length : Int) == 0) = true := by rw [hB]; rfl
 clear hs hs1
 clear hT hFT hm ho
 go_enter Tryz.func104, Tryz.ntmps104
 go_wp2_with fail
 (with_reducible refine (r_parse_ok _ (T) (by omega) HO.out).mono ?_); rintro e w1 ⟨b1, A1, n1, c1, rfl, h1, hb1⟩
 have q1 := ((Below.refl _ _).alloc (Nat.le_refl _) _).trans (hb1.mono (by simp))
 have x1a : Blk w1 w.heap.size 24 #[.bool false, .slice none 0 0, .slice none 0 0] := (blkAt _ _ _ (by simp)).below hb1 (by simp)
 have bw1 := (brefl w).trans (q1.mono (brefl w).size)
 have lw1 : w.heap.size + 1 ≤ w1.heap.size := by have := hb1.size; simp at this; omega
 clear q1
 go_wp2_with fail
 (with_reducible refine (r01_sign_e _ b1 A1 n1 c1 (valZ T) (T.length) ?_ (s) ?_ ?_).mono ?_); (exact (h1.belw ((Below.refl _ _).alloc (Nat.le_refl _) _)).iz); (exact HS.out); (omega); rintro e w2 ⟨rfl, hb2⟩
 have q2 := ((Below.refl _ _).alloc (Nat.le_refl _) _).trans (hb2.mono (by simp))
 replace h1 := h1.belw q2
 replace x1a := x1a.b q2
 have x2a : Blk w2 w1.heap.size 46 #[.bool b1, .slice A1 n1 c1] := (blkAt _ _ _ (by simp)).below hb2 (by simp)
 have bw2 := bw1.trans (q2.mono bw1.size)
 have lw2 : w1.heap.size + 1 ≤ w2.heap.size := by have := hb2.size; simp at this; omega
 clear q2 bw1
 obtain ⟨cx1aa, cx1ab, cx1ac⟩ := x1a.c3
 obtain ⟨fx1aa, fx1ab, fx1ac⟩ := x1a.f3
 obtain ⟨lx1aa, lx1ab, lx1ac, lx1ad⟩ := lts0 x1a.lt
 go_wp2_with fail
 refine bodyPost_ret (v := .tuple #[.agg #[.bool false, .slice none 0 0, .slice none 0 0], .int .i64 2]) (by simp [results, Tryz.results104, go_sem, *] <;> first | rfl | exact ⟨rfl, rfl⟩) rfl ?_
 exact ⟨_, _, _, _, _, _, _, rfl, QV.zero _ _, (((bw2.sc w.heap.size 0 (by omega) (.bool false)).sc w.heap.size 1 (by omega) (.slice none 0 0)).sc w.heap.size 2 (by omega) (.slice none 0 0))⟩
theorem g_dec_5t (w : World) (F B : List UInt8) (N : Nat) (hF6 : F.length ≤ 65536) (hm : headM F = true) (ho : okZ (tailS F) = true) (hs : 0 ≤ (valZ (tailS F)).sign) (hB : B ≠ []) (hN : 64 < N) :
  Calls Tryz.prog 104 #[strV F, strV B, .int .i64 (N : Nat)] w (RetFe w (.int .i64 2) 0 64) := by
 have htlB := toList_v B
 have hszB := size_v B
 have hszF := size_v F
 obtain ⟨T, hT⟩ : ∃ T, tailS F = T := ⟨_, rfl⟩
 have hFT : F = 45 :: T := by
  rcases head_cases F with ⟨_, b⟩ | ⟨b, _⟩
  ·rw [hT] at b; exact b
  ·rw [hm] at b; cases b
 have hgetF : ∀ h, (⟨F.toArray⟩ : ByteArray)[0]'h = 45 := fun h => by subst hFT; rfl
 have e1 : (⟨F.toArray⟩ : ByteArray).extract 1 F.length = ⟨T.toArray⟩ := by rw [ext_v, hFT]; simp
 have hl1 : 1 ≤ F.length := by rw [hFT]; simp
 have hl0 : 0 < F.length := hl1
 have hTF : T.length ≤ F.length := by rw [hFT]; simp
 have HO := Lib.hid (show okZ T = true by rw [← hT]; exact ho)
 obtain ⟨s, hs1⟩ : ∃ s, (valZ T).sign = s := ⟨_, rfl⟩
 have es : (s < 0) = False := by simp; rw [← hs1, ← hT]; exact hs
 have HS := Lib.hid hs1
 have hBz : ((B.length : Int) == 0) = false := by simp; exact hB
 clear hs hs1
 clear hT hFT hm ho
 go_enter Tryz.func104, Tryz.ntmps104
 go_wp2_with fail
 (with_reducible refine (r_parse_ok _ (T) (by omega) HO.out).mono ?_); rintro e w1 ⟨b1, A1, n1, c1, rfl, h1, hb1⟩
 have q1 := ((Below.refl _ _).alloc (Nat.le_refl _) _).trans (hb1.mono (by simp))
 have x1a : Blk w1 w.heap.size 24 #[.bool false, .slice none 0 0, .slice none 0 0] := (blkAt _ _ _ (by simp)).below hb1 (by simp)
 have bw1 := (brefl w).trans (q1.mono (brefl w).size)
 have lw1 : w.heap.size + 1 ≤ w1.heap.size := by have := hb1.size; simp at this; omega
 clear q1
 go_wp2_with fail
 (with_reducible refine (r01_sign_e _ b1 A1 n1 c1 (valZ T) (T.length) ?_ (s) ?_ ?_).mono ?_); (exact (h1.belw ((Below.refl _ _).alloc (Nat.le_refl _) _)).iz); (exact HS.out); (omega); rintro e w2 ⟨rfl, hb2⟩
 have q2 := ((Below.refl _ _).alloc (Nat.le_refl _) _).trans (hb2.mono (by simp))
 replace h1 := h1.belw q2
 replace x1a := x1a.b q2
 have x2a : Blk w2 w1.heap.size 46 #[.bool b1, .slice A1 n1 c1] := (blkAt _ _ _ (by simp)).below hb2 (by simp)
 have bw2 := bw1.trans (q2.mono bw1.size)
 have lw2 : w1.heap.size + 1 ≤ w2.heap.size := by have := hb2.size; simp at this; omega
 clear q2 bw1
 obtain ⟨cx1aa, cx1ab, cx1ac⟩ := x1a.c3
 obtain ⟨fx1aa, fx1ab, fx1ac⟩ := x1a.f3
 obtain ⟨lx1aa, lx1ab, lx1ac, lx1ad⟩ := lts0 x1a.lt
 go_wp2_with fail
 refine bodyPost_ret (v := .tuple #[.agg #[.bool false, .slice none 0 0, .slice none 0 0], .int .i64 2]) (by simp [results, Tryz.results104, go_sem, *] <;> first | rfl | exact ⟨rfl, rfl⟩) rfl ?_
 exact ⟨_, _, _, _, _, _, _, rfl, QV.zero _ _, (((bw2.sc w.heap.size 0 (by omega) (.bool false)).sc w.heap.size 1 (by omega) (.slice none 0 0)).sc w.heap.size 2 (by omega) (.slice none 0 0))⟩
theorem g_dec_okt (w : World) (F B : List UInt8) (N : Nat) (hFB : F.length + B.length ≤ 64) (hm : headM F = true) (ho : okZ (tailS F) = true) (hz : 0 ≤ valZ (tailS F)) (hB : B ≠ []) (hN : N ≤ 64) (x : Int) (r : Rat) (hxr : (B.all isDg = true ∧ x = 0 ∧ r = decQ F B) ∨ (B.all isDg = false ∧ x = 2 ∧ r = 0)) :
    Calls Tryz.prog 104 #[strV F, strV B, .int .i64 (N : Nat)] w (RetFe w (.int .i64 x) r 64) := by
  have hF6 : F.length ≤ 65536 := by omega
  have htlB := toList_v B
  have hszB := size_v B
  have hszF := size_v F
  obtain ⟨T, hT⟩ : ∃ T, tailS F = T := ⟨_, rfl⟩
  have hFT : F = 45 :: T := by
    rcases head_cases F with ⟨_, b⟩ | ⟨b, _⟩
    · rw [hT] at b; exact b
    · rw [hm] at b; cases b
  have hgetF : ∀ h, (⟨F.toArray⟩ : ByteArray)[0]'h = 45 := fun h => by subst hFT; rfl
  have e1 : (⟨F.toArray⟩ : ByteArray).extract 1 F.length = ⟨T.toArray⟩ := by rw [ext_v, hFT]; simp
  have hl1 : 1 ≤ F.length := by rw [hFT]; simp
  have hl0 : 0 < F.length := hl1
  have hTF : T.length ≤ F.length := by rw [hFT]; simp
  have HO := Lib.hid (show okZ T = true by rw [← hT]; exact ho)
  have hs : 0 ≤ (valZ (tailS F)).sign := sign_nn hz
  obtain ⟨s, hs1⟩ : ∃ s, (valZ T).sign = s := ⟨_, rfl⟩
  have es : (s < 0) = False := by simp; rw [← hs1, ← hT]; exact hs
  have HS := Lib.hid hs1
  obtain ⟨X, hX⟩ : ∃ X : Nat, valZ T = (X : Int) := ⟨(valZ T).toNat, by rw [← hT]; omega⟩
  obtain ⟨J, hJ, hX2⟩ : ∃ J, J ≤ T.length ∧ X < 10 ^ J := dec_lt (by rw [← hT]; exact ho) hX
  have HX3 := Lib.hid (And.intro hX2 (show J + B.length ≤ 64 by omega))
  have HX2 := Lib.hid hX
  have HQ := Lib.hid (show Rat.divInt (-NI (X : Int) B B.length) ((10 ^ B.length : Nat) : Int) = decQ F B by
    unfold decQ decN; rw [hm, hT, hX, NI_len]; push_cast; rfl)
  have HXR := Lib.hid hxr
  have hB64 : B.length ≤ 64 := by omega
  have eN : ((64 : Int) < (N : Int)) = False := by simp; omega
  have hBz : ((B.length : Int) == 0) = false := by simp; exact hB
  have hBp : 0 < B.length := List.length_pos_iff.2 hB
  clear hs hs1 hz hX hX2 hJ hxr hB
  clear hT hFT hm ho
  go_enter Tryz.func104, Tryz.ntmps104
  go_wp2_with fail
  (with_reducible refine (r_parse_ok _ (T) (by omega) HO.out).mono ?_); rintro e w1 ⟨b1, A1, n1, c1, rfl, h1, hb1⟩
  have q1 := ((Below.refl _ _).alloc (Nat.le_refl _) _).trans (hb1.mono (by simp))
  have x1a : Blk w1 w.heap.size 24 #[.bool false, .slice none 0 0, .slice none 0 0] := (blkAt _ _ _ (by simp)).below hb1 (by simp)
  have bw1 := (brefl w).trans (q1.mono (brefl w).size)
  have lw1 : w.heap.size + 1 ≤ w1.heap.size := by have := hb1.size; simp at this; omega
  clear q1
  go_wp2_with fail
  (with_reducible refine (r01_sign_e _ b1 A1 n1 c1 (valZ T) (T.length) ?_ (s) ?_ ?_).mono ?_); (exact (h1.belw ((Below.refl _ _).alloc (Nat.le_refl _) _)).iz); (exact HS.out); (omega); rintro e w2 ⟨rfl, hb2⟩
  have q2 := ((Below.refl _ _).alloc (Nat.le_refl _) _).trans (hb2.mono (by simp))
  replace h1 := h1.belw q2
  replace x1a := x1a.b q2
  have x2a : Blk w2 w1.heap.size 46 #[.bool b1, .slice A1 n1 c1] := (blkAt _ _ _ (by simp)).below hb2 (by simp)
  have bw2 := bw1.trans (q2.mono bw1.size)
  have lw2 : w1.heap.size + 1 ≤ w2.heap.size := by have := hb2.size; simp at this; omega
  clear q2 bw1
  go_wp2_with fail
  (with_reducible refine (g_one _).mono ?_); rintro e w3 ⟨b3, A3, n3, c3, rfl, h3, q3⟩
  replace h1 := h1.belw q3
  replace x1a := x1a.b q3
  replace x2a := x2a.b q3
  have bw3 := bw2.trans (q3.mono bw2.size)
  have lw3 := q3.size
  clear q3 bw2
  go_wp2_with fail
  have p4 := ((Kp.refl w3).alloc (.cells #[.bool b3, .slice A3 n3 c3] 46))
  have bw4 := (bw3.alloc (by first | omega | (simp <;> omega)) (.cells #[.bool b3, .slice A3 n3 c3] 46))
  have x4a : Blk (w3.alloc (.cells #[.bool b3, .slice A3 n3 c3] 46)) w3.heap.size 46 #[.bool b3, .slice A3 n3 c3] := (blkAt _ _ _ (by simp))
  replace x1a := (x1a.alloc (.cells #[.bool b3, .slice A3 n3 c3] 46))
  replace x2a := (x2a.alloc (.cells #[.bool b3, .slice A3 n3 c3] 46))
  have lw4 : w3.heap.size + 1 ≤ (w3.alloc (.cells #[.bool b3, .slice A3 n3 c3] 46)).heap.size := by simp
  generalize hE4 : (w3.alloc (.cells #[.bool b3, .slice A3 n3 c3] 46)) = w4 at p4 bw4 lw4 x4a x1a x2a ⊢
  clear hE4
  replace h1 := h1.keep p4
  replace h3 := h3.keep p4
  clear bw3
  go_loopw [49] (fun iv wr => ∃ (i : Nat) (bn : Bool) (An : Option Addr) (nn cn : Nat) (bs : Bool) (As : Option Addr) (ns cs : Nat), iv = .int .i64 (i : Nat) ∧ i ≤ B.length ∧ Hid ((B.take i).all isDg = true) ∧ IV wr bn An nn cn (NI (X : Int) B i) 64 ∧ IV wr bs As ns cs ((10 ^ i : Nat) : Int) 64 ∧ Kp w4 wr ∧ Below w.heap.size w wr ∧ w4.heap.size ≤ wr.heap.size ∧ Blk wr w.heap.size 24 #[.bool false, .slice none 0 0, .slice none 0 0] ∧ Blk wr w1.heap.size 46 #[.bool bn, .slice An nn cn] ∧ Blk wr w3.heap.size 46 #[.bool bs, .slice As ns cs]) (fun iv _ => B.length - (intOf iv).toNat)
  case atStart => exact ⟨0, b1, A1, n1, c1, b3, A3, n3, c3, rfl, Nat.zero_le _, Lib.hid rfl, (by rw [NI_zero, ← HX2.out]; exact h1.mono (by omega)), (by rw [show ((10 ^ 0 : Nat) : Int) = 1 from rfl]; exact h3.mono (by omega)), Kp.refl _, bw4, Nat.le_refl _, x1a, x2a, x4a⟩
  case round =>
    clear x1a
    clear x2a
    clear x4a
    obtain ⟨i, bn, An, nn, cn, bs, As, ns, cs, rfl, hi, hall, ho, hp, hkp, hbw, hlw, x1a, x2a, x4a⟩ := hrel
    replace h1 := h1.keep hkp
    replace h3 := h3.keep hkp
    by_cases hlt : i < B.length
    · obtain ⟨d, hd⟩ : ∃ d, B[i] = d := ⟨_, rfl⟩
      have hget : ∀ h, (⟨B.toArray⟩ : ByteArray)[i]'h = d := fun h => hd
      have hts : B.take (i + 1) = B.take i ++ [d] := by rw [List.take_succ_eq_append_getElem hlt, hd]
      obtain ⟨dn, hdn⟩ : ∃ dn, d.toNat = dn := ⟨_, rfl⟩
      have hi0 : (0 : Int) ≤ (i : Int) := by omega
      have hiL : (i : Int) < (B.length : Int) := by omega
      by_cases hdg : isDg d = true
      · have h8 : 48 ≤ dn ∧ dn ≤ 57 := by unfold isDg at hdg; rw [Bool.and_eq_true, decide_eq_true_eq, decide_eq_true_eq, hdn] at hdg; exact hdg
        obtain ⟨v, hv⟩ : ∃ v, dn - 48 = v := ⟨_, rfl⟩
        have e2 : (dn : Int) - 48 = (v : Int) := by omega
        have hv9 : v ≤ 9 := by omega
        have e48 : ((dn : Int) < 48) = False := by simp; omega
        have e57 : ((57 : Int) < (dn : Int)) = False := by simp; omega
        have HD : dval d = v := by unfold dval; rw [hdn]; exact hv
        have HNI := Lib.hid (show NI (X : Int) B i * 10 + (v : Nat) = NI (X : Int) B (i + 1) by rw [← NI_succ _ _ _ hlt, hd, HD])
        have HAL := Lib.hid (show (B.take (i + 1)).all isDg = true by rw [hts, List.all_append, hall.out]; simp [hdg])
        have HB1 := Lib.hid (NI_lt2 HX3.out.1 HAL.out (show i + 1 ≤ B.length by omega) HX3.out.2)
        have HB2 := Lib.hid (ten_lt (i := i + 1) (by omega))
        have hw8 : IntKind.u8.wrap (v : Int) = (v : Int) := IntWalk.u8_in _ ⟨by omega, by omega⟩
        have hw64 : IntKind.i64.wrap (v : Int) = (v : Int) := IntWalk.i64_in _ ⟨by omega, by omega⟩
        clear hd hdg h8 hv HD hts
        obtain ⟨cx2aa, cx2ab⟩ := x2a.c2
        obtain ⟨lx2aa, lx2ab, lx2ac, lx2ad⟩ := lts0 x2a.lt
        go_wp2_with fail
        refine wp_region_lin (B := w.heap.size) (fr := fun xf => ⟨List.toArray (.string ⟨T.toArray⟩ :: strV B :: .int .i64 (N : Nat) :: undef :: undef :: undef :: .pointer (some ⟨w.heap.size, 0, none⟩) :: u7 :: .bool true :: .pointer (some ⟨w1.heap.size, 0, none⟩) :: .int .i64 0 :: .pointer (some ⟨w3.heap.size, 0, none⟩) :: .int .i64 (i : Nat) :: strV F :: .int .i64 (F.length : Nat) :: .bool true :: .bool true :: strV F :: .int .u8 45 :: .bool true :: .bool true :: .bool true :: strV F :: .string ⟨T.toArray⟩ :: .tuple #[.agg #[.bool b1, .slice A1 n1 c1], .int .i64 0] :: .string ⟨T.toArray⟩ :: .tuple #[.agg #[.bool b1, .slice A1 n1 c1], .int .i64 0] :: .agg #[.bool b1, .slice A1 n1 c1] :: .int .i64 0 :: .int .i64 0 :: .bool false :: .bool false :: .agg #[.bool b1, .slice A1 n1 c1] :: .int .i64 s :: .bool false :: .bool false :: .bool false :: strV B :: .int .i64 (B.length : Nat) :: .bool false :: .bool false :: .bool false :: .int .i64 (N : Nat) :: .bool false :: .bool false :: undef :: .agg #[.bool b3, .slice A3 n3 c3] :: strV B :: .int .i64 (B.length : Nat) :: .int .i64 (i : Nat) :: .bool true :: .int .i64 (i : Nat) :: strV B :: .int .i64 (i : Nat) :: .int .u8 (dn : Nat) :: .bool false :: .bool false :: strV B :: .int .i64 (i : Nat) :: .int .u8 (dn : Nat) :: .bool false :: .bool false :: u62 :: xf 0 :: xf 1 :: xf 2 :: xf 3 :: xf 4 :: xf 5 :: xf 6 :: xf 7 :: xf 8 :: xf 9 :: u73 :: u74 :: u75 :: u76 :: undef :: undef :: undef :: undef :: undef :: undef :: []), []⟩) (R := fun ri => List.getD ((PEq (.agg #[.bool bn, .slice An nn cn])) :: (VI ((10 : Int)) (1)) :: (VI ((NI (X : Int) B i) * ((10 : Int))) ((64) + (1))) :: (PEq (strV B)) :: (PEq (.int .i64 (i : Nat))) :: (PEq (.int .u8 (dn : Nat))) :: (PEq (.int .u8 (v : Nat))) :: (PEq (.int .i64 (v : Nat))) :: (VI (((v : Nat) : Int)) (1)) :: (VI (((NI (X : Int) B i) * ((10 : Int))) + (((v : Nat) : Int))) (((64) + (1)) + (1) + 1)) :: PAny :: []) ri (fun _ _ => True)) (es := []) (ow := [⟨w.heap.size, 11, 0, 24, #[.bool false, .slice none 0 0, .slice none 0 0], CAny⟩, ⟨w1.heap.size, 10, 0, 46, #[.bool bn, .slice An nn cn], CI (((NI (X : Int) B i) * ((10 : Int))) + (((v : Nat) : Int))) (((64) + (1)) + (1) + 1)⟩, ⟨w3.heap.size, 11, 0, 46, #[.bool bs, .slice As ns cs], CAny⟩]) (x0 := (upd (upd (upd (upd (upd (upd (upd (upd (upd (upd (fun _ => undef) 0 (u63)) 1 (u64)) 2 (u65)) 3 (u66)) 4 (u67)) 5 (u68)) 6 (u69)) 7 (u70)) 8 (u71)) 9 (u72))) (by kernel_rfl)
          (each_of ⟨fun _ _ => rfl, fun _ _ => rfl, fun _ _ => rfl, fun _ _ => rfl, fun _ _ => rfl, fun _ _ => rfl, fun _ _ => rfl, fun _ _ => rfl, fun _ _ => rfl, fun _ _ => rfl, fun _ _ => rfl, trivial⟩) (each_of (acyc_from _ 0 (by kernel_rfl))) (AllStab.get _ ⟨stEq _, stI _ _, stI _ _, stEq _, stEq _, stEq _, stEq _, stEq _, stI _ _, stI _ _, stAny, trivial⟩)
          (fun _ h => nomatch h) (List.forall_mem_cons.2 ⟨scAny, List.forall_mem_cons.2 ⟨scI _ _, List.forall_mem_cons.2 ⟨scAny, fun _ h => nomatch h⟩⟩⟩) (fun _ h => nomatch h) hbw.size
          (List.forall_mem_cons.2 ⟨⟨x1a, by show w.heap.size ≤ w.heap.size; omega⟩, List.forall_mem_cons.2 ⟨⟨x2a, by show w.heap.size ≤ w1.heap.size; omega⟩, List.forall_mem_cons.2 ⟨⟨x4a, by show w.heap.size ≤ w3.heap.size; omega⟩, fun _ h => nomatch h⟩⟩⟩) (ownDist (by simp <;> omega))
          (each_of ⟨?_, ?_, ?_, ?_, ?_, ?_, ?_, ?_, ?_, ?_, ?_, trivial⟩) ?_
        · exact .inl ⟨by simp, by simp, fun xf wq hk hbl hd K hK => by
            have y : Blk wq w1.heap.size 46 #[.bool bn, .slice An nn cn] := hbl _ (List.Mem.tail _ (List.Mem.head _)) (by simp [Region.binds])
            obtain ⟨hcl0, hcl1⟩ := y.c2
            (try dsimp only)
            go_simp
            exact hK.out (.agg #[.bool bn, .slice An nn cn]) _ rfl (brefl _)⟩
        · exact .inl ⟨by simp, by simp, fun xf wq hk hbl hd K hK => by
            (try dsimp only)
            go_simp
            go_at_call 91
            (with_reducible refine (r01_of1 _ (10) ?_ ?_).mono ?_); (first | omega | decide | assumption); (first | omega | decide | assumption); rintro e wr ⟨b6, A6, n6, c6, rfl, h6, hbr⟩
            exact hK.out _ _ ⟨b6, A6, n6, c6, rfl, h6⟩ hbr⟩
        · exact .inl ⟨by simp, by simp, fun xf wq hk hbl hd K hK => by
            have dq0 : xf 0 = .agg #[.bool bn, .slice An nn cn] := hd ⟨0, .data⟩ (by simp) rfl
            obtain ⟨b6, A6, n6, c6, dq1, h6⟩ : VI ((10 : Int)) (1) (xf 1) wq := hd ⟨1, .data⟩ (by simp) rfl
            (try dsimp only); (try simp only [dq0, dq1])
            go_simp
            go_at_call 112
            (with_reducible refine (r01_mul _ bn An nn cn (NI (X : Int) B i) (64) ?_ b6 A6 n6 c6 ((10 : Int)) (1) ?_ ?_).mono ?_); (exact (ho.keep hk).iz); (exact h6.iz); (first | omega | decide | assumption); rintro e wr ⟨b7, A7, n7, c7, rfl, h7, hbr⟩
            have hz := hK.out _ _ ⟨b7, A7, n7, c7, rfl, h7⟩ hbr
            simp only [dq0, dq1] at hz
            exact hz⟩
        · exact .inl ⟨by simp, by simp, fun xf wq hk hbl hd K hK => by
            (try dsimp only)
            go_simp
            exact hK.out (strV B) _ rfl (brefl _)⟩
        · exact .inl ⟨by simp, by simp, fun xf wq hk hbl hd K hK => by
            (try dsimp only)
            go_simp
            exact hK.out (.int .i64 (i : Nat)) _ rfl (brefl _)⟩
        · exact .inl ⟨by simp, by simp, fun xf wq hk hbl hd K hK => by
            have dq3 : xf 3 = strV B := hd ⟨3, .data⟩ (by simp) rfl
            have dq4 : xf 4 = .int .i64 (i : Nat) := hd ⟨4, .data⟩ (by simp) rfl
            (try dsimp only); (try simp only [dq3, dq4])
            go_simp
            have hz := hK.out (.int .u8 (dn : Nat)) _ rfl (brefl _)
            simp only [dq3, dq4] at hz
            exact hz⟩
        · exact .inl ⟨by simp, by simp, fun xf wq hk hbl hd K hK => by
            have dq5 : xf 5 = .int .u8 (dn : Nat) := hd ⟨5, .data⟩ (by simp) rfl
            (try dsimp only); (try simp only [dq5])
            go_simp
            have hz := hK.out (.int .u8 (v : Nat)) _ rfl (brefl _)
            simp only [dq5] at hz
            exact hz⟩
        · exact .inl ⟨by simp, by simp, fun xf wq hk hbl hd K hK => by
            have dq6 : xf 6 = .int .u8 (v : Nat) := hd ⟨6, .data⟩ (by simp) rfl
            (try dsimp only); (try simp only [dq6])
            go_simp
            have hz := hK.out (.int .i64 (v : Nat)) _ rfl (brefl _)
            simp only [dq6] at hz
            exact hz⟩
        · exact .inl ⟨by simp, by simp, fun xf wq hk hbl hd K hK => by
            have dq7 : xf 7 = .int .i64 (v : Nat) := hd ⟨7, .data⟩ (by simp) rfl
            (try dsimp only); (try simp only [dq7])
            go_simp
            go_at_call 91
            (with_reducible refine (r01_of1 _ ((v : Nat)) ?_ ?_).mono ?_); (first | omega | decide | assumption); (first | omega | decide | assumption); rintro e wr ⟨b8, A8, n8, c8, rfl, h8, hbr⟩
            have hz := hK.out _ _ ⟨b8, A8, n8, c8, rfl, h8⟩ hbr
            simp only [dq7] at hz
            exact hz⟩
        · exact .inl ⟨by simp, by simp, fun xf wq hk hbl hd K hK => by
            obtain ⟨b7, A7, n7, c7, dq2, h7⟩ : VI ((NI (X : Int) B i) * ((10 : Int))) ((64) + (1)) (xf 2) wq := hd ⟨2, .data⟩ (by simp) rfl
            obtain ⟨b8, A8, n8, c8, dq8, h8⟩ : VI (((v : Nat) : Int)) (1) (xf 8) wq := hd ⟨8, .data⟩ (by simp) rfl
            (try dsimp only); (try simp only [dq2, dq8])
            go_simp
            go_at_call 110
            (with_reducible refine (r01_add _ b7 A7 n7 c7 ((NI (X : Int) B i) * ((10 : Int))) ((64) + (1)) ?_ b8 A8 n8 c8 (((v : Nat) : Int)) (1) ?_ ?_).mono ?_); (exact h7.iz); (exact h8.iz); (first | omega | decide | assumption); rintro e wr ⟨b9, A9, n9, c9, rfl, h9, hbr⟩
            have hz := hK.out _ _ ⟨b9, A9, n9, c9, rfl, h9⟩ hbr
            simp only [dq2, dq8] at hz
            exact hz⟩
        · exact .inr (.inr (.inr ⟨⟨w1.heap.size, 10, 0, 46, #[.bool bn, .slice An nn cn], CI (((NI (X : Int) B i) * ((10 : Int))) + (((v : Nat) : Int))) (((64) + (1)) + (1) + 1)⟩, by simp, rfl, by simp, by simp, (show KT 46 = false by decide), fun _ _ => True.intro, fun xf wq hblk hd => by
            obtain ⟨b9, A9, n9, c9, dq9, h9⟩ : VI (((NI (X : Int) B i) * ((10 : Int))) + (((v : Nat) : Int))) (((64) + (1)) + (1) + 1) (xf 9) wq := hd ⟨9, .data⟩ (by simp) rfl
            dsimp only at hblk
            refine ⟨[.bool b9, .slice A9 n9 c9], fun w' hk => ⟨b9, A9, n9, c9, rfl, h9.keep hk⟩, fun K hK => ?_⟩
            have hc0 : wq.cell? ⟨w1.heap.size, 0, none⟩ = some (.bool bn) := hblk.cell 0
            have hc1 : wq.cell? ⟨w1.heap.size, 1, none⟩ = some (.slice An nn cn) := hblk.cell 1
            have hf0 : wq.frozen? ⟨w1.heap.size, 0, none⟩ = false := hblk.frozen 0
            have hf1 : wq.frozen? ⟨w1.heap.size, 1, none⟩ = false := hblk.frozen 1
            (try dsimp only)
            simp only [dq9]
            go_simp
            have hz := hK.out undef
            simp only [dq9] at hz
            exact hz⟩))
        clear cx2aa cx2ab lx2aa lx2ab lx2ac lx2ad
        intro y5 w5 kq5 hbl5 lw5 how hrr hfl hds
        replace ho := ho.keep kq5
        replace hp := hp.keep kq5
        replace hkp := hkp.trans kq5
        obtain ⟨_, z5_0, ez, _⟩ := how _ (List.Mem.head _)
        obtain rfl := ez (by simp)
        dsimp only at z5_0
        obtain ⟨_, z5_1, _, ez⟩ := how _ (List.Mem.tail _ (List.Mem.head _))
        obtain ⟨b9, A9, n9, c9, rfl, h9⟩ := ez (by simp)
        dsimp only at z5_1
        obtain ⟨_, z5_2, ez, _⟩ := how _ (List.Mem.tail _ (List.Mem.tail _ (List.Mem.head _)))
        obtain rfl := ez (by simp)
        dsimp only at z5_2
        (try dsimp only)
        clear hrr hfl how hds 
        clear x1a x2a x4a
        have bw5 := hbw.trans hbl5
        have cz5_1_0 : w5.cell? ⟨w1.heap.size, 0, none⟩ = some (.bool b9) := z5_1.cell 0
        have cz5_1_1 : w5.cell? ⟨w1.heap.size, 1, none⟩ = some (.slice A9 n9 c9) := z5_1.cell 1
        obtain ⟨lz5_1_0, lz5_1_1, lz5_1_2, lz5_1_3⟩ := lts0 z5_1.lt
        have cz5_2_0 : w5.cell? ⟨w3.heap.size, 0, none⟩ = some (.bool bs) := z5_2.cell 0
        have cz5_2_1 : w5.cell? ⟨w3.heap.size, 1, none⟩ = some (.slice As ns cs) := z5_2.cell 1
        obtain ⟨lz5_2_0, lz5_2_1, lz5_2_2, lz5_2_3⟩ := lts0 z5_2.lt
        go_wp2_with fail
        refine wp_region_lin (B := w.heap.size) (fr := fun xf => ⟨List.toArray (.string ⟨T.toArray⟩ :: strV B :: .int .i64 (N : Nat) :: undef :: undef :: undef :: .pointer (some ⟨w.heap.size, 0, none⟩) :: u7 :: .bool true :: .pointer (some ⟨w1.heap.size, 0, none⟩) :: .int .i64 0 :: .pointer (some ⟨w3.heap.size, 0, none⟩) :: .int .i64 (i : Nat) :: strV F :: .int .i64 (F.length : Nat) :: .bool true :: .bool true :: strV F :: .int .u8 45 :: .bool true :: .bool true :: .bool true :: strV F :: .string ⟨T.toArray⟩ :: .tuple #[.agg #[.bool b1, .slice A1 n1 c1], .int .i64 0] :: .string ⟨T.toArray⟩ :: .tuple #[.agg #[.bool b1, .slice A1 n1 c1], .int .i64 0] :: .agg #[.bool b1, .slice A1 n1 c1] :: .int .i64 0 :: .int .i64 0 :: .bool false :: .bool false :: .agg #[.bool b1, .slice A1 n1 c1] :: .int .i64 s :: .bool false :: .bool false :: .bool false :: strV B :: .int .i64 (B.length : Nat) :: .bool false :: .bool false :: .bool false :: .int .i64 (N : Nat) :: .bool false :: .bool false :: undef :: .agg #[.bool b3, .slice A3 n3 c3] :: strV B :: .int .i64 (B.length : Nat) :: .int .i64 (i : Nat) :: .bool true :: .int .i64 (i : Nat) :: strV B :: .int .i64 (i : Nat) :: .int .u8 (dn : Nat) :: .bool false :: .bool false :: strV B :: .int .i64 (i : Nat) :: .int .u8 (dn : Nat) :: .bool false :: .bool false :: u62 :: y5 0 :: y5 1 :: y5 2 :: y5 3 :: y5 4 :: y5 5 :: y5 6 :: y5 7 :: y5 8 :: y5 9 :: xf 0 :: xf 1 :: xf 2 :: u76 :: undef :: undef :: undef :: undef :: undef :: undef :: []), []⟩) (R := fun ri => List.getD ((PEq (.agg #[.bool bs, .slice As ns cs])) :: (VI ((10 : Int)) (1)) :: (VI ((((10 ^ i : Nat) : Int)) * ((10 : Int))) ((64) + (1))) :: PAny :: []) ri (fun _ _ => True)) (es := []) (ow := [⟨w.heap.size, 4, 0, 24, #[.bool false, .slice none 0 0, .slice none 0 0], CAny⟩, ⟨w1.heap.size, 4, 0, 46, #[.bool b9, .slice A9 n9 c9], CAny⟩, ⟨w3.heap.size, 3, 0, 46, #[.bool bs, .slice As ns cs], CI ((((10 ^ i : Nat) : Int)) * ((10 : Int))) ((64) + (1))⟩]) (x0 := (upd (upd (upd (fun _ => undef) 0 (u73)) 1 (u74)) 2 (u75))) (by kernel_rfl)
          (each_of ⟨fun _ _ => rfl, fun _ _ => rfl, fun _ _ => rfl, fun _ _ => rfl, trivial⟩) (each_of (acyc_from _ 0 (by kernel_rfl))) (AllStab.get _ ⟨stEq _, stI _ _, stI _ _, stAny, trivial⟩)
          (fun _ h => nomatch h) (List.forall_mem_cons.2 ⟨scAny, List.forall_mem_cons.2 ⟨scAny, List.forall_mem_cons.2 ⟨scI _ _, fun _ h => nomatch h⟩⟩⟩) (fun _ h => nomatch h) bw5.size
          (List.forall_mem_cons.2 ⟨⟨z5_0, by show w.heap.size ≤ w.heap.size; omega⟩, List.forall_mem_cons.2 ⟨⟨z5_1, by show w.heap.size ≤ w1.heap.size; omega⟩, List.forall_mem_cons.2 ⟨⟨z5_2, by show w.heap.size ≤ w3.heap.size; omega⟩, fun _ h => nomatch h⟩⟩⟩) (ownDist (by simp <;> omega))
          (each_of ⟨?_, ?_, ?_, ?_, trivial⟩) ?_
        · exact .inl ⟨by simp, by simp, fun xf wq hk hbl hd K hK => by
            have y : Blk wq w3.heap.size 46 #[.bool bs, .slice As ns cs] := hbl _ (List.Mem.tail _ (List.Mem.tail _ (List.Mem.head _))) (by simp [Region.binds])
            obtain ⟨hcl0, hcl1⟩ := y.c2
            (try dsimp only)
            go_simp
            exact hK.out (.agg #[.bool bs, .slice As ns cs]) _ rfl (brefl _)⟩
        · exact .inl ⟨by simp, by simp, fun xf wq hk hbl hd K hK => by
            (try dsimp only)
            go_simp
            go_at_call 91
            (with_reducible refine (r01_of1 _ (10) ?_ ?_).mono ?_); (first | omega | decide | assumption); (first | omega | decide | assumption); rintro e wr ⟨b12, A12, n12, c12, rfl, h12, hbr⟩
            exact hK.out _ _ ⟨b12, A12, n12, c12, rfl, h12⟩ hbr⟩
        · exact .inl ⟨by simp, by simp, fun xf wq hk hbl hd K hK => by
            have dq0 : xf 0 = .agg #[.bool bs, .slice As ns cs] := hd ⟨0, .data⟩ (by simp) rfl
            obtain ⟨b12, A12, n12, c12, dq1, h12⟩ : VI ((10 : Int)) (1) (xf 1) wq := hd ⟨1, .data⟩ (by simp) rfl
            (try dsimp only); (try simp only [dq0, dq1])
            go_simp
            go_at_call 112
            (with_reducible refine (r01_mul _ bs As ns cs (((10 ^ i : Nat) : Int)) (64) ?_ b12 A12 n12 c12 ((10 : Int)) (1) ?_ ?_).mono ?_); (exact (hp.keep hk).iz); (exact h12.iz); (first | omega | decide | assumption); rintro e wr ⟨b13, A13, n13, c13, rfl, h13, hbr⟩
            have hz := hK.out _ _ ⟨b13, A13, n13, c13, rfl, h13⟩ hbr
            simp only [dq0, dq1] at hz
            exact hz⟩
        · exact .inr (.inr (.inr ⟨⟨w3.heap.size, 3, 0, 46, #[.bool bs, .slice As ns cs], CI ((((10 ^ i : Nat) : Int)) * ((10 : Int))) ((64) + (1))⟩, by simp, rfl, by simp, by simp, (show KT 46 = false by decide), fun _ _ => True.intro, fun xf wq hblk hd => by
            obtain ⟨b13, A13, n13, c13, dq2, h13⟩ : VI ((((10 ^ i : Nat) : Int)) * ((10 : Int))) ((64) + (1)) (xf 2) wq := hd ⟨2, .data⟩ (by simp) rfl
            dsimp only at hblk
            refine ⟨[.bool b13, .slice A13 n13 c13], fun w' hk => ⟨b13, A13, n13, c13, rfl, h13.keep hk⟩, fun K hK => ?_⟩
            have hc0 : wq.cell? ⟨w3.heap.size, 0, none⟩ = some (.bool bs) := hblk.cell 0
            have hc1 : wq.cell? ⟨w3.heap.size, 1, none⟩ = some (.slice As ns cs) := hblk.cell 1
            have hf0 : wq.frozen? ⟨w3.heap.size, 0, none⟩ = false := hblk.frozen 0
            have hf1 : wq.frozen? ⟨w3.heap.size, 1, none⟩ = false := hblk.frozen 1
            (try dsimp only)
            simp only [dq2]
            go_simp
            have hz := hK.out undef
            simp only [dq2] at hz
            exact hz⟩))
        clear cz5_1_0 cz5_1_1 lz5_1_0 lz5_1_1 lz5_1_2 lz5_1_3 cz5_2_0 cz5_2_1 lz5_2_0 lz5_2_1 lz5_2_2 lz5_2_3
        intro y11 w11 kq11 hbl11 lw11 how hrr hfl hds
        replace ho := ho.keep kq11
        replace hp := hp.keep kq11
        replace h9 := h9.keep kq11
        replace hkp := hkp.trans kq11
        obtain ⟨_, z11_0, ez, _⟩ := how _ (List.Mem.head _)
        obtain rfl := ez (by simp)
        dsimp only at z11_0
        obtain ⟨_, z11_1, ez, _⟩ := how _ (List.Mem.tail _ (List.Mem.head _))
        obtain rfl := ez (by simp)
        dsimp only at z11_1
        obtain ⟨_, z11_2, _, ez⟩ := how _ (List.Mem.tail _ (List.Mem.tail _ (List.Mem.head _)))
        obtain ⟨b13, A13, n13, c13, rfl, h13⟩ := ez (by simp)
        dsimp only at z11_2
        (try dsimp only)
        clear hrr hfl how hds 
        clear z5_0 z5_1 z5_2
        have bw11 := bw5.trans hbl11
        clear bw5
        have cz11_2_0 : w11.cell? ⟨w3.heap.size, 0, none⟩ = some (.bool b13) := z11_2.cell 0
        have cz11_2_1 : w11.cell? ⟨w3.heap.size, 1, none⟩ = some (.slice A13 n13 c13) := z11_2.cell 1
        obtain ⟨lz11_2_0, lz11_2_1, lz11_2_2, lz11_2_3⟩ := lts0 z11_2.lt
        go_wp2_with fail
        have hN2 := h9.resz (K := 64) (by rw [HNI.out]; exact HB1.out)
        rw [HNI.out] at hN2
        have hS2 := h13.resz (K := 64) (by rw [ten_succ]; exact HB2.out)
        rw [ten_succ] at hS2
        clear cz11_2_0 cz11_2_1 lz11_2_0 lz11_2_1 lz11_2_2 lz11_2_3
        go_roundw
        case rel => exact ⟨i + 1, b9, A9, n9, c9, b13, A13, n13, c13, by go_num, by omega, HAL, hN2, hS2, hkp, bw11, by omega, z11_0, z11_1, z11_2⟩
        case measure => simp [intOf]; omega
      · have hor : dn < 48 ∨ (48 ≤ dn ∧ 57 < dn) := by
          unfold isDg at hdg; rw [hdn] at hdg; simp at hdg; omega
        have HR := Lib.hid (show x = 2 ∧ r = 0 by
          rcases HXR.out with ⟨e, _⟩ | ⟨_, e⟩
          · exact absurd (List.all_eq_true.1 e d (by rw [← hd]; exact List.getElem_mem _)) hdg
          · exact e)
        clear hd hdg hts
        rcases hor with h8 | ⟨h8, h82⟩
        · have cx1aa : wr.cell? ⟨w.heap.size, 0, none⟩ = some (.bool false) := x1a.cell 0
          have fx1aa : wr.frozen? ⟨w.heap.size, 0, none⟩ = false := x1a.frozen 0
          have cx1ab : wr.cell? ⟨w.heap.size, 1, none⟩ = some (.slice none 0 0) := x1a.cell 1
          have fx1ab : wr.frozen? ⟨w.heap.size, 1, none⟩ = false := x1a.frozen 1
          have cx1ac : wr.cell? ⟨w.heap.size, 2, none⟩ = some (.slice none 0 0) := x1a.cell 2
          have fx1ac : wr.frozen? ⟨w.heap.size, 2, none⟩ = false := x1a.frozen 2
          obtain ⟨lx1aa, lx1ab, lx1ac, lx1ad⟩ := lts0 x1a.lt
          go_wp2_with fail
          rw [HR.out.1, HR.out.2]
          refine bodyPost_ret (v := .tuple #[.agg #[.bool false, .slice none 0 0, .slice none 0 0], .int .i64 2]) (by simp [results, Tryz.results104, go_sem, *] <;> first | rfl | exact ⟨rfl, rfl⟩) rfl ?_
          exact ⟨_, _, _, _, _, _, _, rfl, QV.zero _ _, (((hbw.sc w.heap.size 0 (by omega) (.bool false)).sc w.heap.size 1 (by omega) (.slice none 0 0)).sc w.heap.size 2 (by omega) (.slice none 0 0))⟩
        · have cx1aa : wr.cell? ⟨w.heap.size, 0, none⟩ = some (.bool false) := x1a.cell 0
          have fx1aa : wr.frozen? ⟨w.heap.size, 0, none⟩ = false := x1a.frozen 0
          have cx1ab : wr.cell? ⟨w.heap.size, 1, none⟩ = some (.slice none 0 0) := x1a.cell 1
          have fx1ab : wr.frozen? ⟨w.heap.size, 1, none⟩ = false := x1a.frozen 1
          have cx1ac : wr.cell? ⟨w.heap.size, 2, none⟩ = some (.slice none 0 0) := x1a.cell 2
          have fx1ac : wr.frozen? ⟨w.heap.size, 2, none⟩ = false := x1a.frozen 2
          obtain ⟨lx1aa, lx1ab, lx1ac, lx1ad⟩ := lts0 x1a.lt
          go_wp2_with fail
          rw [HR.out.1, HR.out.2]
          refine bodyPost_ret (v := .tuple #[.agg #[.bool false, .slice none 0 0, .slice none 0 0], .int .i64 2]) (by simp [results, Tryz.results104, go_sem, *] <;> first | rfl | exact ⟨rfl, rfl⟩) rfl ?_
          exact ⟨_, _, _, _, _, _, _, rfl, QV.zero _ _, (((hbw.sc w.heap.size 0 (by omega) (.bool false)).sc w.heap.size 1 (by omega) (.slice none 0 0)).sc w.heap.size 2 (by omega) (.slice none 0 0))⟩
    · have hiN : i = B.length := by omega
      subst hiN
      have hall2 : B.all isDg = true := by have := hall.out; rw [List.take_length] at this; exact this
      have HR := Lib.hid (show x = 0 ∧ r = decQ F B by
        rcases HXR.out with ⟨_, e⟩ | ⟨e, _⟩
        · exact e
        · rw [hall2] at e; cases e)
      have HSQ := Lib.hid (show Sz (decQ F B) 64 by
        rw [← HQ.out]
        exact Sz_divInt (by rw [Int.natAbs_neg]; exact NI_lt HX3.out.1 hall2 (Nat.le_refl _) HX3.out.2) (ten_lt hB64) (by decide))
      clear hall2
      obtain ⟨cx2aa, cx2ab⟩ := x2a.c2
      obtain ⟨lx2aa, lx2ab, lx2ac, lx2ad⟩ := lts0 x2a.lt
      go_wp2_with fail
      (with_reducible refine (r01_neg _ bn An nn cn (NI (X : Int) B B.length) (64) ?_ ?_).mono ?_); (exact ho.iz); (first | omega | decide | assumption); rintro e w5 ⟨b5, A5, n5, c5, rfl, h5, q5⟩
      clear cx2aa cx2ab lx2aa lx2ab lx2ac lx2ad
      replace ho := ho.belw q5
      replace hp := hp.belw q5
      replace hkp := hkp.below q5
      replace x1a := x1a.b q5
      replace x2a := x2a.b q5
      replace x4a := x4a.b q5
      have bw5 := hbw.trans (q5.mono hbw.size)
      have lw5 := q5.size
      clear q5
      obtain ⟨cx2aa, cx2ab⟩ := x2a.c2
      obtain ⟨fx2aa, fx2ab⟩ := x2a.f2
      obtain ⟨lx2aa, lx2ab, lx2ac, lx2ad⟩ := lts0 x2a.lt
      obtain ⟨cx4aa, cx4ab⟩ := x4a.c2
      obtain ⟨lx4aa, lx4ab, lx4ac, lx4ad⟩ := lts0 x4a.lt
      go_wp2_with fail
      clear cx2aa fx2aa cx2ab fx2ab lx2aa lx2ab lx2ac lx2ad cx4aa cx4ab lx4aa lx4ab lx4ac lx4ad
      have p6 := (((Kp.refl w5).sb w1.heap.size 0 x2a.box (by decide) (.bool b5)).sb w1.heap.size 1 (x2a.box.set ⟨w1.heap.size, 0, none⟩ (.bool b5)) (by decide) (.slice A5 n5 c5))
      have bw6 := ((bw5.sc w1.heap.size 0 (by omega) (.bool b5)).sc w1.heap.size 1 (by omega) (.slice A5 n5 c5))
      replace x1a := ((x1a.fr w1.heap.size 0 (by omega) (.bool b5)).fr w1.heap.size 1 (by omega) (.slice A5 n5 c5))
      replace x2a := ((x2a.set_at 0 (.bool b5) #[.bool b5, .slice An nn cn] (by simp)).set_at 1 (.slice A5 n5 c5) #[.bool b5, .slice A5 n5 c5] (by simp))
      replace x4a := ((x4a.fr w1.heap.size 0 (by omega) (.bool b5)).fr w1.heap.size 1 (by omega) (.slice A5 n5 c5))
      have lw6 : w5.heap.size + 0 ≤ ((w5.setCell ⟨w1.heap.size, 0, none⟩ (.bool b5)).setCell ⟨w1.heap.size, 1, none⟩ (.slice A5 n5 c5)).heap.size := by simp
      generalize hE6 : ((w5.setCell ⟨w1.heap.size, 0, none⟩ (.bool b5)).setCell ⟨w1.heap.size, 1, none⟩ (.slice A5 n5 c5)) = w6 at p6 bw6 lw6 x1a x2a x4a ⊢
      clear hE6
      replace ho := ho.keep p6
      replace hp := hp.keep p6
      replace h5 := h5.keep p6
      replace hkp := hkp.trans p6
      clear bw5
      (with_reducible refine (g_form _ b5 A5 n5 c5 (-(NI (X : Int) B B.length)) ((64)) ?_ bs As ns cs (((10 ^ B.length : Nat) : Int)) (64) ?_ (decQ F B) 64 ?_ ?_ ?_ ?_).mono ?_); (exact h5.iz); (exact hp.iz); (exact ten_ne _); (exact HQ.out); (exact HSQ.out); (omega); rintro e w7 ⟨b7, A7, n7, c7, A'7, n'7, c'7, rfl, h7, q7⟩
      replace ho := ho.belw q7
      replace hp := hp.belw q7
      replace h5 := h5.belw q7
      replace hkp := hkp.below q7
      replace x1a := x1a.b q7
      replace x2a := x2a.b q7
      replace x4a := x4a.b q7
      have bw7 := bw6.trans (q7.mono bw6.size)
      have lw7 := q7.size
      clear q7 bw6
      obtain ⟨cx1aa, cx1ab, cx1ac⟩ := x1a.c3
      obtain ⟨fx1aa, fx1ab, fx1ac⟩ := x1a.f3
      obtain ⟨lx1aa, lx1ab, lx1ac, lx1ad⟩ := lts0 x1a.lt
      go_wp2_with fail
      refine bodyPost_ret (v := .tuple #[.agg #[.bool b7, .slice A7 n7 c7, .slice A'7 n'7 c'7], .int .i64 0]) (by simp [results, Tryz.results104, go_sem, *] <;> first | rfl | exact ⟨rfl, rfl⟩) rfl ?_
      rw [HR.out.1, HR.out.2]
      exact ⟨_, _, _, _, _, _, _, rfl, (h7).keep ((((Kp.refl w7).sb w.heap.size 0 x1a.box (by decide) (.bool b7)).sb w.heap.size 1 (x1a.box.set ⟨w.heap.size, 0, none⟩ (.bool b7)) (by decide) (.slice A7 n7 c7)).sb w.heap.size 2 ((x1a.box.set ⟨w.heap.size, 0, none⟩ (.bool b7)).set ⟨w.heap.size, 1, none⟩ (.slice A7 n7 c7)) (by decide) (.slice A'7 n'7 c'7)), (((bw7.sc w.heap.size 0 (by omega) (.bool b7)).sc w.heap.size 1 (by omega) (.slice A7 n7 c7)).sc w.heap.size 2 (by omega) (.slice A'7 n'7 c'7))⟩
theorem g_dec_1f (w : World) (F B : List UInt8) (N : Nat) (hF6 : F.length ≤ 65536) (hm : headM F = false) (hF : F ≠ []) (ho : okZ (tailS F) = false) :
  Calls Tryz.prog 104 #[strV F, strV B, .int .i64 (N : Nat)] w (RetFe w (.int .i64 2) 0 64) := by
 have htlB := toList_v B
 have hszB := size_v B
 have hszF := size_v F
 obtain ⟨T, hT⟩ : ∃ T, tailS F = T := ⟨_, rfl⟩
 have hFT : T = F := by
  rcases head_cases F with ⟨b, _⟩ | ⟨_, b⟩
  ·rw [hm] at b; cases b
  ·rw [← hT]; exact b
 obtain ⟨x0, xs0, hx0⟩ := List.exists_cons_of_ne_nil hF
 have hgetF : ∀ h, (⟨F.toArray⟩ : ByteArray)[0]'h = x0 := fun h => by subst hx0; rfl
 have hn45 : x0 ≠ 45 := fun e => by rw [hx0, e] at hm; cases hm
 have hcn : x0.toNat ≠ 45 := fun e => hn45 (UInt8.toNat.inj e)
 have hcz : ¬ (x0.toNat : Int) = 45 := by omega
 have hcb : ((x0.toNat : Int) == 45) = false := by simp; omega
 have hl0 : 0 < F.length := by rw [hx0]; simp
 have hTF : T.length ≤ F.length := by rw [hFT]; exact Nat.le_refl _
 have HO := Lib.hid (show okZ T = false by rw [← hT]; exact ho)
 clear hT hm ho hn45 hcn hx0
 subst hFT
 go_enter Tryz.func104, Tryz.ntmps104
 go_wp2_with fail
 (with_reducible refine (r_parse_bad _ (T) (by omega) HO.out).mono ?_); rintro e w1 ⟨b1, A1, n1, c1, rfl, h1, hb1⟩
 have q1 := ((Below.refl _ _).alloc (Nat.le_refl _) _).trans (hb1.mono (by simp))
 have x1a : Blk w1 w.heap.size 24 #[.bool false, .slice none 0 0, .slice none 0 0] := (blkAt _ _ _ (by simp)).below hb1 (by simp)
 have bw1 := (brefl w).trans (q1.mono (brefl w).size)
 have lw1 : w.heap.size + 1 ≤ w1.heap.size := by have := hb1.size; simp at this; omega
 clear q1
 obtain ⟨cx1aa, cx1ab, cx1ac⟩ := x1a.c3
 obtain ⟨fx1aa, fx1ab, fx1ac⟩ := x1a.f3
 obtain ⟨lx1aa, lx1ab, lx1ac, lx1ad⟩ := lts0 x1a.lt
 go_wp2_with fail
 refine bodyPost_ret (v := .tuple #[.agg #[.bool false, .slice none 0 0, .slice none 0 0], .int .i64 2]) (by simp [results, Tryz.results104, go_sem, *] <;> first | rfl | exact ⟨rfl, rfl⟩) rfl ?_
 exact ⟨_, _, _, _, _, _, _, rfl, QV.zero _ _, ((((bw1.sc w.heap.size 0 (by omega) (.bool false)).sc w.heap.size 1 (by omega) (.slice none 0 0)).sc w.heap.size 2 (by omega) (.slice none 0 0)).alloc (by first | omega | (simp <;> omega)) (.cells #[.bool b1, .slice A1 n1 c1] 46))⟩
theorem g_dec_2f (w : World) (F B : List UInt8) (N : Nat) (hF6 : F.length ≤ 65536) (hm : headM F = false) (hF : F ≠ []) (ho : okZ (tailS F) = true) (hs : (valZ (tailS F)).sign = -1) :
  Calls Tryz.prog 104 #[strV F, strV B, .int .i64 (N : Nat)] w (RetFe w (.int .i64 2) 0 64) := by
 have htlB := toList_v B
 have hszB := size_v B
 have hszF := size_v F
 obtain ⟨T, hT⟩ : ∃ T, tailS F = T := ⟨_, rfl⟩
 have hFT : T = F := by
  rcases head_cases F with ⟨b, _⟩ | ⟨_, b⟩
  ·rw [hm] at b; cases b
  ·rw [← hT]; exact b
 obtain ⟨x0, xs0, hx0⟩ := List.exists_cons_of_ne_nil hF
 have hgetF : ∀ h, (⟨F.toArray⟩ : ByteArray)[0]'h = x0 := fun h => by subst hx0; rfl
 have hn45 : x0 ≠ 45 := fun e => by rw [hx0, e] at hm; cases hm
 have hcn : x0.toNat ≠ 45 := fun e => hn45 (UInt8.toNat.inj e)
 have hcz : ¬ (x0.toNat : Int) = 45 := by omega
 have hcb : ((x0.toNat : Int) == 45) = false := by simp; omega
 have hl0 : 0 < F.length := by rw [hx0]; simp
 have hTF : T.length ≤ F.length := by rw [hFT]; exact Nat.le_refl _
 have HO := Lib.hid (show okZ T = true by rw [← hT]; exact ho)
 have HS := Lib.hid (show (valZ T).sign = -1 by rw [← hT]; exact hs)
 clear hs
 clear hT hm ho hn45 hcn hx0
 subst hFT
 go_enter Tryz.func104, Tryz.ntmps104
 go_wp2_with fail
 (with_reducible refine (r_parse_ok _ (T) (by omega) HO.out).mono ?_); rintro e w1 ⟨b1, A1, n1, c1, rfl, h1, hb1⟩
 have q1 := ((Below.refl _ _).alloc (Nat.le_refl _) _).trans (hb1.mono (by simp))
 have x1a : Blk w1 w.heap.size 24 #[.bool false, .slice none 0 0, .slice none 0 0] := (blkAt _ _ _ (by simp)).below hb1 (by simp)
 have bw1 := (brefl w).trans (q1.mono (brefl w).size)
 have lw1 : w.heap.size + 1 ≤ w1.heap.size := by have := hb1.size; simp at this; omega
 clear q1
 go_wp2_with fail
 (with_reducible refine (r01_sign_e _ b1 A1 n1 c1 (valZ T) (T.length) ?_ ((-1)) ?_ ?_).mono ?_); (exact (h1.belw ((Below.refl _ _).alloc (Nat.le_refl _) _)).iz); (exact HS.out); (omega); rintro e w2 ⟨rfl, hb2⟩
 have q2 := ((Below.refl _ _).alloc (Nat.le_refl _) _).trans (hb2.mono (by simp))
 replace h1 := h1.belw q2
 replace x1a := x1a.b q2
 have x2a : Blk w2 w1.heap.size 46 #[.bool b1, .slice A1 n1 c1] := (blkAt _ _ _ (by simp)).below hb2 (by simp)
 have bw2 := bw1.trans (q2.mono bw1.size)
 have lw2 : w1.heap.size + 1 ≤ w2.heap.size := by have := hb2.size; simp at this; omega
 clear q2 bw1
 obtain ⟨cx1aa, cx1ab, cx1ac⟩ := x1a.c3
 obtain ⟨fx1aa, fx1ab, fx1ac⟩ := x1a.f3
 obtain ⟨lx1aa, lx1ab, lx1ac, lx1ad⟩ := lts0 x1a.lt
 go_wp2_with fail
 refine bodyPost_ret (v := .tuple #[.agg #[.bool false, .slice none 0 0, .slice none 0 0], .int .i64 2]) (by simp [results, Tryz.results104, go_sem, *] <;> first | rfl | exact ⟨rfl, rfl⟩) rfl ?_
 exact ⟨_, _, _, _, _, _, _, rfl, QV.zero _ _, (((bw2.sc w.heap.size 0 (by omega) (.bool false)).sc w.heap.size 1 (by omega) (.slice none 0 0)).sc w.heap.size 2 (by omega) (.slice none 0 0))⟩
theorem g_dec_3f (w : World) (F B : List UInt8) (N : Nat) (hF6 : F.length ≤ 65536) (hm : headM F = false) (hF : F ≠ []) (ho : okZ (tailS F) = true) (hs : 0 ≤ (valZ (tailS F)).sign) (hB : B.length = 0) :
  Calls Tryz.prog 104 #[strV F, strV B, .int .i64 (N : Nat)] w (RetFe w (.int .i64 2) 0 64) := by
 have htlB := toList_v B
 have hszB := size_v B
 have hszF := size_v F
 obtain ⟨T, hT⟩ : ∃ T, tailS F = T := ⟨_, rfl⟩
 have hFT : T = F := by
  rcases head_cases F with ⟨b, _⟩ | ⟨_, b⟩
  ·rw [hm] at b; cases b
  ·rw [← hT]; exact b
 obtain ⟨x0, xs0, hx0⟩ := List.exists_cons_of_ne_nil hF
 have hgetF : ∀ h, (⟨F.toArray⟩ : ByteArray)[0]'h = x0 := fun h => by subst hx0; rfl
 have hn45 : x0 ≠ 45 := fun e => by rw [hx0, e] at hm; cases hm
 have hcn : x0.toNat ≠ 45 := fun e => hn45 (UInt8.toNat.inj e)
 have hcz : ¬ (x0.toNat : Int) = 45 := by omega
 have hcb : ((x0.toNat : Int) == 45) = false := by simp; omega
 have hl0 : 0 < F.length := by rw [hx0]; simp
 have hTF : T.length ≤ F.length := by rw [hFT]; exact Nat.le_refl _
 have HO := Lib.hid (show okZ T = true by rw [← hT]; exact ho)
 obtain ⟨s, hs1⟩ : ∃ s, (valZ T).sign = s := ⟨_, rfl⟩
 have es : (s < 0) = False := by simp; rw [← hs1, ← hT]; exact hs
 have HS := Lib.hid hs1
 have hBz : ((B.length : Int) == 0) = true := by rw [hB]; rfl
 clear hs hs1
 clear hT hm ho hn45 hcn hx0
 subst hFT
 go_enter Tryz.func104, Tryz.ntmps104
 go_wp2_with fail
 (with_reducible refine (r_parse_ok _ (T) (by omega) HO.out).mono ?_); rintro e w1 ⟨b1, A1, n1, c1, rfl, h1, hb1⟩
 have q1 := ((Below.refl _ _).alloc (Nat.le_refl _) _).trans (hb1.mono (by simp))
 have x1a : Blk w1 w.heap.size 24 #[.bool false, .slice none 0 0, .slice none 0 0] := (blkAt _ _ _ (by simp)).below hb1 (by simp)
 have bw1 := (brefl w).trans (q1.mono (brefl w).size)
 have lw1 : w.heap.size + 1 ≤ w1.heap.size := by have := hb1.size; simp at this; omega
 clear q1
 go_wp2_with fail
 (with_reducible refine (r01_sign_e _ b1 A1 n1 c1 (valZ T) (T.length) ?_ (s) ?_ ?_).mono ?_); (exact (h1.belw ((Below.refl _ _).alloc (Nat.le_refl _) _)).iz); (exact HS.out); (omega); rintro e w2 ⟨rfl, hb2⟩
 have q2 := ((Below.refl _ _).alloc (Nat.le_refl _) _).trans (hb2.mono (by simp))
 replace h1 := h1.belw q2
 replace x1a := x1a.b q2
 have x2a : Blk w2 w1.heap.size 46 #[.bool b1, .slice A1 n1 c1] := (blkAt _ _ _ (by simp)).below hb2 (by simp)
 have bw2 := bw1.trans (q2.mono bw1.size)
 have lw2 : w1.heap.size + 1 ≤ w2.heap.size := by have := hb2.size; simp at this; omega
 clear q2 bw1
 obtain ⟨cx1aa, cx1ab, cx1ac⟩ := x1a.c3
 obtain ⟨fx1aa, fx1ab, fx1ac⟩ := x1a.f3
 obtain ⟨lx1aa, lx1ab, lx1ac, lx1ad⟩ := lts0 x1a.lt
 go_wp2_with fail
 refine bodyPost_ret (v := .tuple #[.agg #[.bool false, .slice none 0 0, .slice none 0 0], .int .i64 2]) (by simp [results, Tryz.results104, go_sem, *] <;> first | rfl | exact ⟨rfl, rfl⟩) rfl ?_
 exact ⟨_, _, _, _, _, _, _, rfl, QV.zero _ _, (((bw2.sc w.heap.size 0 (by omega) (.bool false)).sc w.heap.size 1 (by omega) (.slice none 0 0)).sc w.heap.size 2 (by omega) (.slice none 0 0))⟩
theorem g_dec_5f (w : World) (F B : List UInt8) (N : Nat) (hF6 : F.length ≤ 65536) (hm : headM F = false) (hF : F ≠ []) (ho : okZ (tailS F) = true) (hs : 0 ≤ (valZ (tailS F)).sign) (hB : B ≠ []) (hN : 64 < N) :
  Calls Tryz.prog 104 #[strV F, strV B, .int .i64 (N : Nat)] w (RetFe w (.int .i64 2) 0 64) := by
 have htlB := toList_v B
 have hszB := size_v B
 have hszF := size_v F
 obtain ⟨T, hT⟩ : ∃ T, tailS F = T := ⟨_, rfl⟩
 have hFT : T = F := by
  rcases head_cases F with ⟨b, _⟩ | ⟨_, b⟩
  ·rw [hm] at b; cases b
  ·rw [← hT]; exact b
 obtain ⟨x0, xs0, hx0⟩ := List.exists_cons_of_ne_nil hF
 have hgetF : ∀ h, (⟨F.toArray⟩ : ByteArray)[0]'h = x0 := fun h => by subst hx0; rfl
 have hn45 : x0 ≠ 45 := fun e => by rw [hx0, e] at hm; cases hm
 have hcn : x0.toNat ≠ 45 := fun e => hn45 (UInt8.toNat.inj e)
 have hcz : ¬ (x0.toNat : Int) = 45 := by omega
 have hcb : ((x0.toNat : Int) == 45) = false := by simp; omega
 have hl0 : 0 < F.length := by rw [hx0]; simp
 have hTF : T.length ≤ F.length := by rw [hFT]; exact Nat.le_refl _
 have HO := Lib.hid (show okZ T = true by rw [← hT]; exact ho)
 obtain ⟨s, hs1⟩ : ∃ s, (valZ T).sign = s := ⟨_, rfl⟩
 have es : (s < 0) = False := by simp; rw [← hs1, ← hT]; exact hs
 have HS := Lib.hid hs1
 have hBz : ((B.length : Int) == 0) = false := by simp; exact hB
 clear hs hs1
 clear hT hm ho hn45 hcn hx0
 subst hFT
 go_enter Tryz.func104, Tryz.ntmps104
 go_wp2_with fail
 (with_reducible refine (r_parse_ok _ (T) (by omega) HO.out).mono ?_); rintro e w1 ⟨b1, A1, n1, c1, rfl, h1, hb1⟩
 have q1 := ((Below.refl _ _).alloc (Nat.le_refl _) _).trans (hb1.mono (by simp))
 have x1a : Blk w1 w.heap.size 24 #[.bool false, .slice none 0 0, .slice none 0 0] := (blkAt _ _ _ (by simp)).below hb1 (by simp)
 have bw1 := (brefl w).trans (q1.mono (brefl w).size)
 have lw1 : w.heap.size + 1 ≤ w1.heap.size := by have := hb1.size; simp at this; omega
 clear q1
 go_wp2_with fail
 (with_reducible refine (r01_sign_e _ b1 A1 n1 c1 (valZ T) (T.length) ?_ (s) ?_ ?_).mono ?_); (exact (h1.belw ((Below.refl _ _).alloc (Nat.le_refl _) _)).iz); (exact HS.out); (omega); rintro e w2 ⟨rfl, hb2⟩
 have q2 := ((Below.refl _ _).alloc (Nat.le_refl _) _).trans (hb2.mono (by simp))
 replace h1 := h1.belw q2
 replace x1a := x1a.b q2
 have x2a : Blk w2 w1.heap.size 46 #[.bool b1, .slice A1 n1 c1] := (blkAt _ _ _ (by simp)).below hb2 (by simp)
 have bw2 := bw1.trans (q2.mono bw1.size)
 have lw2 : w1.heap.size + 1 ≤ w2.heap.size := by have := hb2.size; simp at this; omega
 clear q2 bw1
 obtain ⟨cx1aa, cx1ab, cx1ac⟩ := x1a.c3
 obtain ⟨fx1aa, fx1ab, fx1ac⟩ := x1a.f3
 obtain ⟨lx1aa, lx1ab, lx1ac, lx1ad⟩ := lts0 x1a.lt
 go_wp2_with fail
 refine bodyPost_ret (v := .tuple #[.agg #[.bool false, .slice none 0 0, .slice none 0 0], .int .i64 2]) (by simp [results, Tryz.results104, go_sem, *] <;> first | rfl | exact ⟨rfl, rfl⟩) rfl ?_
 exact ⟨_, _, _, _, _, _, _, rfl, QV.zero _ _, (((bw2.sc w.heap.size 0 (by omega) (.bool false)).sc w.heap.size 1 (by omega) (.slice none 0 0)).sc w.heap.size 2 (by omega) (.slice none 0 0))⟩
theorem g_dec_okf (w : World) (F B : List UInt8) (N : Nat) (hFB : F.length + B.length ≤ 64) (hm : headM F = false) (hF : F ≠ []) (ho : okZ (tailS F) = true) (hz : 0 ≤ valZ (tailS F)) (hB : B ≠ []) (hN : N ≤ 64) (x : Int) (r : Rat) (hxr : (B.all isDg = true ∧ x = 0 ∧ r = decQ F B) ∨ (B.all isDg = false ∧ x = 2 ∧ r = 0)) :
    Calls Tryz.prog 104 #[strV F, strV B, .int .i64 (N : Nat)] w (RetFe w (.int .i64 x) r 64) := by
  have hF6 : F.length ≤ 65536 := by omega
  have htlB := toList_v B
  have hszB := size_v B
  have hszF := size_v F
  obtain ⟨T, hT⟩ : ∃ T, tailS F = T := ⟨_, rfl⟩
  have hFT : T = F := by
    rcases head_cases F with ⟨b, _⟩ | ⟨_, b⟩
    · rw [hm] at b; cases b
    · rw [← hT]; exact b
  obtain ⟨x0, xs0, hx0⟩ := List.exists_cons_of_ne_nil hF
  have hgetF : ∀ h, (⟨F.toArray⟩ : ByteArray)[0]'h = x0 := fun h => by subst hx0; rfl
  have hn45 : x0 ≠ 45 := fun e => by rw [hx0, e] at hm; cases hm
  have hcn : x0.toNat ≠ 45 := fun e => hn45 (UInt8.toNat.inj e)
  have hcz : ¬ (x0.toNat : Int) = 45 := by omega
  have hcb : ((x0.toNat : Int) == 45) = false := by simp; omega
  have hl0 : 0 < F.length := by rw [hx0]; simp
  have hTF : T.length ≤ F.length := by rw [hFT]; exact Nat.le_refl _
  have HO := Lib.hid (show okZ T = true by rw [← hT]; exact ho)
  have hs : 0 ≤ (valZ (tailS F)).sign := sign_nn hz
  obtain ⟨s, hs1⟩ : ∃ s, (valZ T).sign = s := ⟨_, rfl⟩
  have es : (s < 0) = False := by simp; rw [← hs1, ← hT]; exact hs
  have HS := Lib.hid hs1
  obtain ⟨X, hX⟩ : ∃ X : Nat, valZ T = (X : Int) := ⟨(valZ T).toNat, by rw [← hT]; omega⟩
  obtain ⟨J, hJ, hX2⟩ : ∃ J, J ≤ T.length ∧ X < 10 ^ J := dec_lt (by rw [← hT]; exact ho) hX
  have HX3 := Lib.hid (And.intro hX2 (show J + B.length ≤ 64 by omega))
  have HX2 := Lib.hid hX
  have HQ := Lib.hid (show Rat.divInt (NI (X : Int) B B.length) ((10 ^ B.length : Nat) : Int) = decQ F B by
    unfold decQ decN; rw [hm, hT, hX, NI_len]; push_cast; rfl)
  have HXR := Lib.hid hxr
  have hB64 : B.length ≤ 64 := by omega
  have eN : ((64 : Int) < (N : Int)) = False := by simp; omega
  have hBz : ((B.length : Int) == 0) = false := by simp; exact hB
  have hBp : 0 < B.length := List.length_pos_iff.2 hB
  clear hs hs1 hz hX hX2 hJ hxr hB
  clear hT hm ho hn45 hcn hx0
  subst hFT
  go_enter Tryz.func104, Tryz.ntmps104
  go_wp2_with fail
  (with_reducible refine (r_parse_ok _ (T) (by omega) HO.out).mono ?_); rintro e w1 ⟨b1, A1, n1, c1, rfl, h1, hb1⟩
  have q1 := ((Below.refl _ _).alloc (Nat.le_refl _) _).trans (hb1.mono (by simp))
  have x1a : Blk w1 w.heap.size 24 #[.bool false, .slice none 0 0, .slice none 0 0] := (blkAt _ _ _ (by simp)).below hb1 (by simp)
  have bw1 := (brefl w).trans (q1.mono (brefl w).size)
  have lw1 : w.heap.size + 1 ≤ w1.heap.size := by have := hb1.size; simp at this; omega
  clear q1
  go_wp2_with fail
  (with_reducible refine (r01_sign_e _ b1 A1 n1 c1 (valZ T) (T.length) ?_ (s) ?_ ?_).mono ?_); (exact (h1.belw ((Below.refl _ _).alloc (Nat.le_refl _) _)).iz); (exact HS.out); (omega); rintro e w2 ⟨rfl, hb2⟩
  have q2 := ((Below.refl _ _).alloc (Nat.le_refl _) _).trans (hb2.mono (by simp))
  replace h1 := h1.belw q2
  replace x1a := x1a.b q2
  have x2a : Blk w2 w1.heap.size 46 #[.bool b1, .slice A1 n1 c1] := (blkAt _ _ _ (by simp)).below hb2 (by simp)
  have bw2 := bw1.trans (q2.mono bw1.size)
  have lw2 : w1.heap.size + 1 ≤ w2.heap.size := by have := hb2.size; simp at this; omega
  clear q2 bw1
  go_wp2_with fail
  (with_reducible refine (g_one _).mono ?_); rintro e w3 ⟨b3, A3, n3, c3, rfl, h3, q3⟩
  replace h1 := h1.belw q3
  replace x1a := x1a.b q3
  replace x2a := x2a.b q3
  have bw3 := bw2.trans (q3.mono bw2.size)
  have lw3 := q3.size
  clear q3 bw2
  go_wp2_with fail
  have p4 := ((Kp.refl w3).alloc (.cells #[.bool b3, .slice A3 n3 c3] 46))
  have bw4 := (bw3.alloc (by first | omega | (simp <;> omega)) (.cells #[.bool b3, .slice A3 n3 c3] 46))
  have x4a : Blk (w3.alloc (.cells #[.bool b3, .slice A3 n3 c3] 46)) w3.heap.size 46 #[.bool b3, .slice A3 n3 c3] := (blkAt _ _ _ (by simp))
  replace x1a := (x1a.alloc (.cells #[.bool b3, .slice A3 n3 c3] 46))
  replace x2a := (x2a.alloc (.cells #[.bool b3, .slice A3 n3 c3] 46))
  have lw4 : w3.heap.size + 1 ≤ (w3.alloc (.cells #[.bool b3, .slice A3 n3 c3] 46)).heap.size := by simp
  generalize hE4 : (w3.alloc (.cells #[.bool b3, .slice A3 n3 c3] 46)) = w4 at p4 bw4 lw4 x4a x1a x2a ⊢
  clear hE4
  replace h1 := h1.keep p4
  replace h3 := h3.keep p4
  clear bw3
  go_loopw [49] (fun iv wr => ∃ (i : Nat) (bn : Bool) (An : Option Addr) (nn cn : Nat) (bs : Bool) (As : Option Addr) (ns cs : Nat), iv = .int .i64 (i : Nat) ∧ i ≤ B.length ∧ Hid ((B.take i).all isDg = true) ∧ IV wr bn An nn cn (NI (X : Int) B i) 64 ∧ IV wr bs As ns cs ((10 ^ i : Nat) : Int) 64 ∧ Kp w4 wr ∧ Below w.heap.size w wr ∧ w4.heap.size ≤ wr.heap.size ∧ Blk wr w.heap.size 24 #[.bool false, .slice none 0 0, .slice none 0 0] ∧ Blk wr w1.heap.size 46 #[.bool bn, .slice An nn cn] ∧ Blk wr w3.heap.size 46 #[.bool bs, .slice As ns cs]) (fun iv _ => B.length - (intOf iv).toNat)
  case atStart => exact ⟨0, b1, A1, n1, c1, b3, A3, n3, c3, rfl, Nat.zero_le _, Lib.hid rfl, (by rw [NI_zero, ← HX2.out]; exact h1.mono (by omega)), (by rw [show ((10 ^ 0 : Nat) : Int) = 1 from rfl]; exact h3.mono (by omega)), Kp.refl _, bw4, Nat.le_refl _, x1a, x2a, x4a⟩
  case round =>
    clear x1a
    clear x2a
    clear x4a
    obtain ⟨i, bn, An, nn, cn, bs, As, ns, cs, rfl, hi, hall, ho, hp, hkp, hbw, hlw, x1a, x2a, x4a⟩ := hrel
    replace h1 := h1.keep hkp
    replace h3 := h3.keep hkp
    by_cases hlt : i < B.length
    · obtain ⟨d, hd⟩ : ∃ d, B[i] = d := ⟨_, rfl⟩
      have hget : ∀ h, (⟨B.toArray⟩ : ByteArray)[i]'h = d := fun h => hd
      have hts : B.take (i + 1) = B.take i ++ [d] := by rw [List.take_succ_eq_append_getElem hlt, hd]
      obtain ⟨dn, hdn⟩ : ∃ dn, d.toNat = dn := ⟨_, rfl⟩
      have hi0 : (0 : Int) ≤ (i : Int) := by omega
      have hiL : (i : Int) < (B.length : Int) := by omega
      by_cases hdg : isDg d = true
      · have h8 : 48 ≤ dn ∧ dn ≤ 57 := by unfold isDg at hdg; rw [Bool.and_eq_true, decide_eq_true_eq, decide_eq_true_eq, hdn] at hdg; exact hdg
        obtain ⟨v, hv⟩ : ∃ v, dn - 48 = v := ⟨_, rfl⟩
        have e2 : (dn : Int) - 48 = (v : Int) := by omega
        have hv9 : v ≤ 9 := by omega
        have e48 : ((dn : Int) < 48) = False := by simp; omega
        have e57 : ((57 : Int) < (dn : Int)) = False := by simp; omega
        have HD : dval d = v := by unfold dval; rw [hdn]; exact hv
        have HNI := Lib.hid (show NI (X : Int) B i * 10 + (v : Nat) = NI (X : Int) B (i + 1) by rw [← NI_succ _ _ _ hlt, hd, HD])
        have HAL := Lib.hid (show (B.take (i + 1)).all isDg = true by rw [hts, List.all_append, hall.out]; simp [hdg])
        have HB1 := Lib.hid (NI_lt2 HX3.out.1 HAL.out (show i + 1 ≤ B.length by omega) HX3.out.2)
        have HB2 := Lib.hid (ten_lt (i := i + 1) (by omega))
        have hw8 : IntKind.u8.wrap (v : Int) = (v : Int) := IntWalk.u8_in _ ⟨by omega, by omega⟩
        have hw64 : IntKind.i64.wrap (v : Int) = (v : Int) := IntWalk.i64_in _ ⟨by omega, by omega⟩
        clear hd hdg h8 hv HD hts
        obtain ⟨cx2aa, cx2ab⟩ := x2a.c2
        obtain ⟨lx2aa, lx2ab, lx2ac, lx2ad⟩ := lts0 x2a.lt
        go_wp2_with fail
        refine wp_region_lin (B := w.heap.size) (fr := fun xf => ⟨List.toArray (strV T :: strV B :: .int .i64 (N : Nat) :: undef :: undef :: undef :: .pointer (some ⟨w.heap.size, 0, none⟩) :: u7 :: .bool false :: .pointer (some ⟨w1.heap.size, 0, none⟩) :: .int .i64 0 :: .pointer (some ⟨w3.heap.size, 0, none⟩) :: .int .i64 (i : Nat) :: strV T :: .int .i64 (T.length : Nat) :: .bool true :: .bool true :: strV T :: .int .u8 (x0.toNat : Nat) :: .bool false :: .bool false :: .bool false :: undef :: undef :: .tuple #[.agg #[.bool b1, .slice A1 n1 c1], .int .i64 0] :: strV T :: .tuple #[.agg #[.bool b1, .slice A1 n1 c1], .int .i64 0] :: .agg #[.bool b1, .slice A1 n1 c1] :: .int .i64 0 :: .int .i64 0 :: .bool false :: .bool false :: .agg #[.bool b1, .slice A1 n1 c1] :: .int .i64 s :: .bool false :: .bool false :: .bool false :: strV B :: .int .i64 (B.length : Nat) :: .bool false :: .bool false :: .bool false :: .int .i64 (N : Nat) :: .bool false :: .bool false :: undef :: .agg #[.bool b3, .slice A3 n3 c3] :: strV B :: .int .i64 (B.length : Nat) :: .int .i64 (i : Nat) :: .bool true :: .int .i64 (i : Nat) :: strV B :: .int .i64 (i : Nat) :: .int .u8 (dn : Nat) :: .bool false :: .bool false :: strV B :: .int .i64 (i : Nat) :: .int .u8 (dn : Nat) :: .bool false :: .bool false :: u62 :: xf 0 :: xf 1 :: xf 2 :: xf 3 :: xf 4 :: xf 5 :: xf 6 :: xf 7 :: xf 8 :: xf 9 :: u73 :: u74 :: u75 :: u76 :: undef :: undef :: undef :: undef :: undef :: undef :: []), []⟩) (R := fun ri => List.getD ((PEq (.agg #[.bool bn, .slice An nn cn])) :: (VI ((10 : Int)) (1)) :: (VI ((NI (X : Int) B i) * ((10 : Int))) ((64) + (1))) :: (PEq (strV B)) :: (PEq (.int .i64 (i : Nat))) :: (PEq (.int .u8 (dn : Nat))) :: (PEq (.int .u8 (v : Nat))) :: (PEq (.int .i64 (v : Nat))) :: (VI (((v : Nat) : Int)) (1)) :: (VI (((NI (X : Int) B i) * ((10 : Int))) + (((v : Nat) : Int))) (((64) + (1)) + (1) + 1)) :: PAny :: []) ri (fun _ _ => True)) (es := []) (ow := [⟨w.heap.size, 11, 0, 24, #[.bool false, .slice none 0 0, .slice none 0 0], CAny⟩, ⟨w1.heap.size, 10, 0, 46, #[.bool bn, .slice An nn cn], CI (((NI (X : Int) B i) * ((10 : Int))) + (((v : Nat) : Int))) (((64) + (1)) + (1) + 1)⟩, ⟨w3.heap.size, 11, 0, 46, #[.bool bs, .slice As ns cs], CAny⟩]) (x0 := (upd (upd (upd (upd (upd (upd (upd (upd (upd (upd (fun _ => undef) 0 (u63)) 1 (u64)) 2 (u65)) 3 (u66)) 4 (u67)) 5 (u68)) 6 (u69)) 7 (u70)) 8 (u71)) 9 (u72))) (by kernel_rfl)
          (each_of ⟨fun _ _ => rfl, fun _ _ => rfl, fun _ _ => rfl, fun _ _ => rfl, fun _ _ => rfl, fun _ _ => rfl, fun _ _ => rfl, fun _ _ => rfl, fun _ _ => rfl, fun _ _ => rfl, fun _ _ => rfl, trivial⟩) (each_of (acyc_from _ 0 (by kernel_rfl))) (AllStab.get _ ⟨stEq _, stI _ _, stI _ _, stEq _, stEq _, stEq _, stEq _, stEq _, stI _ _, stI _ _, stAny, trivial⟩)
          (fun _ h => nomatch h) (List.forall_mem_cons.2 ⟨scAny, List.forall_mem_cons.2 ⟨scI _ _, List.forall_mem_cons.2 ⟨scAny, fun _ h => nomatch h⟩⟩⟩) (fun _ h => nomatch h) hbw.size
          (List.forall_mem_cons.2 ⟨⟨x1a, by show w.heap.size ≤ w.heap.size; omega⟩, List.forall_mem_cons.2 ⟨⟨x2a, by show w.heap.size ≤ w1.heap.size; omega⟩, List.forall_mem_cons.2 ⟨⟨x4a, by show w.heap.size ≤ w3.heap.size; omega⟩, fun _ h => nomatch h⟩⟩⟩) (ownDist (by simp <;> omega))
          (each_of ⟨?_, ?_, ?_, ?_, ?_, ?_, ?_, ?_, ?_, ?_, ?_, trivial⟩) ?_
        · exact .inl ⟨by simp, by simp, fun xf wq hk hbl hd K hK => by
            have y : Blk wq w1.heap.size 46 #[.bool bn, .slice An nn cn] := hbl _ (List.Mem.tail _ (List.Mem.head _)) (by simp [Region.binds])
            obtain ⟨hcl0, hcl1⟩ := y.c2
            (try dsimp only)
            go_simp
            exact hK.out (.agg #[.bool bn, .slice An nn cn]) _ rfl (brefl _)⟩
        · exact .inl ⟨by simp, by simp, fun xf wq hk hbl hd K hK => by
            (try dsimp only)
            go_simp
            go_at_call 91
            (with_reducible refine (r01_of1 _ (10) ?_ ?_).mono ?_); (first | omega | decide | assumption); (first | omega | decide | assumption); rintro e wr ⟨b6, A6, n6, c6, rfl, h6, hbr⟩
            exact hK.out _ _ ⟨b6, A6, n6, c6, rfl, h6⟩ hbr⟩
        · exact .inl ⟨by simp, by simp, fun xf wq hk hbl hd K hK => by
            have dq0 : xf 0 = .agg #[.bool bn, .slice An nn cn] := hd ⟨0, .data⟩ (by simp) rfl
            obtain ⟨b6, A6, n6, c6, dq1, h6⟩ : VI ((10 : Int)) (1) (xf 1) wq := hd ⟨1, .data⟩ (by simp) rfl
            (try dsimp only); (try simp only [dq0, dq1])
            go_simp
            go_at_call 112
            (with_reducible refine (r01_mul _ bn An nn cn (NI (X : Int) B i) (64) ?_ b6 A6 n6 c6 ((10 : Int)) (1) ?_ ?_).mono ?_); (exact (ho.keep hk).iz); (exact h6.iz); (first | omega | decide | assumption); rintro e wr ⟨b7, A7, n7, c7, rfl, h7, hbr⟩
            have hz := hK.out _ _ ⟨b7, A7, n7, c7, rfl, h7⟩ hbr
            simp only [dq0, dq1] at hz
            exact hz⟩
        · exact .inl ⟨by simp, by simp, fun xf wq hk hbl hd K hK => by
            (try dsimp only)
            go_simp
            exact hK.out (strV B) _ rfl (brefl _)⟩
        · exact .inl ⟨by simp, by simp, fun xf wq hk hbl hd K hK => by
            (try dsimp only)
            go_simp
            exact hK.out (.int .i64 (i : Nat)) _ rfl (brefl _)⟩
        · exact .inl ⟨by simp, by simp, fun xf wq hk hbl hd K hK => by
            have dq3 : xf 3 = strV B := hd ⟨3, .data⟩ (by simp) rfl
            have dq4 : xf 4 = .int .i64 (i : Nat) := hd ⟨4, .data⟩ (by simp) rfl
            (try dsimp only); (try simp only [dq3, dq4])
            go_simp
            have hz := hK.out (.int .u8 (dn : Nat)) _ rfl (brefl _)
            simp only [dq3, dq4] at hz
            exact hz⟩
        · exact .inl ⟨by simp, by simp, fun xf wq hk hbl hd K hK => by
            have dq5 : xf 5 = .int .u8 (dn : Nat) := hd ⟨5, .data⟩ (by simp) rfl
            (try dsimp only); (try simp only [dq5])
            go_simp
            have hz := hK.out (.int .u8 (v : Nat)) _ rfl (brefl _)
            simp only [dq5] at hz
            exact hz⟩
        · exact .inl ⟨by simp, by simp, fun xf wq hk hbl hd K hK => by
            have dq6 : xf 6 = .int .u8 (v : Nat) := hd ⟨6, .data⟩ (by simp) rfl
            (try dsimp only); (try simp only [dq6])
            go_simp
            have hz := hK.out (.int .i64 (v : Nat)) _ rfl (brefl _)
            simp only [dq6] at hz
            exact hz⟩
        · exact .inl ⟨by simp, by simp, fun xf wq hk hbl hd K hK => by
            have dq7 : xf 7 = .int .i64 (v : Nat) := hd ⟨7, .data⟩ (by simp) rfl
            (try dsimp only); (try simp only [dq7])
            go_simp
            go_at_call 91
            (with_reducible refine (r01_of1 _ ((v : Nat)) ?_ ?_).mono ?_); (first | omega | decide | assumption); (first | omega | decide | assumption); rintro e wr ⟨b8, A8, n8, c8, rfl, h8, hbr⟩
            have hz := hK.out _ _ ⟨b8, A8, n8, c8, rfl, h8⟩ hbr
            simp only [dq7] at hz
            exact hz⟩
        · exact .inl ⟨by simp, by simp, fun xf wq hk hbl hd K hK => by
            obtain ⟨b7, A7, n7, c7, dq2, h7⟩ : VI ((NI (X : Int) B i) * ((10 : Int))) ((64) + (1)) (xf 2) wq := hd ⟨2, .data⟩ (by simp) rfl
            obtain ⟨b8, A8, n8, c8, dq8, h8⟩ : VI (((v : Nat) : Int)) (1) (xf 8) wq := hd ⟨8, .data⟩ (by simp) rfl
            (try dsimp only); (try simp only [dq2, dq8])
            go_simp
            go_at_call 110
            (with_reducible refine (r01_add _ b7 A7 n7 c7 ((NI (X : Int) B i) * ((10 : Int))) ((64) + (1)) ?_ b8 A8 n8 c8 (((v : Nat) : Int)) (1) ?_ ?_).mono ?_); (exact h7.iz); (exact h8.iz); (first | omega | decide | assumption); rintro e wr ⟨b9, A9, n9, c9, rfl, h9, hbr⟩
            have hz := hK.out _ _ ⟨b9, A9, n9, c9, rfl, h9⟩ hbr
            simp only [dq2, dq8] at hz
            exact hz⟩
        · exact .inr (.inr (.inr ⟨⟨w1.heap.size, 10, 0, 46, #[.bool bn, .slice An nn cn], CI (((NI (X : Int) B i) * ((10 : Int))) + (((v : Nat) : Int))) (((64) + (1)) + (1) + 1)⟩, by simp, rfl, by simp, by simp, (show KT 46 = false by decide), fun _ _ => True.intro, fun xf wq hblk hd => by
            obtain ⟨b9, A9, n9, c9, dq9, h9⟩ : VI (((NI (X : Int) B i) * ((10 : Int))) + (((v : Nat) : Int))) (((64) + (1)) + (1) + 1) (xf 9) wq := hd ⟨9, .data⟩ (by simp) rfl
            dsimp only at hblk
            refine ⟨[.bool b9, .slice A9 n9 c9], fun w' hk => ⟨b9, A9, n9, c9, rfl, h9.keep hk⟩, fun K hK => ?_⟩
            have hc0 : wq.cell? ⟨w1.heap.size, 0, none⟩ = some (.bool bn) := hblk.cell 0
            have hc1 : wq.cell? ⟨w1.heap.size, 1, none⟩ = some (.slice An nn cn) := hblk.cell 1
            have hf0 : wq.frozen? ⟨w1.heap.size, 0, none⟩ = false := hblk.frozen 0
            have hf1 : wq.frozen? ⟨w1.heap.size, 1, none⟩ = false := hblk.frozen 1
            (try dsimp only)
            simp only [dq9]
            go_simp
            have hz := hK.out undef
            simp only [dq9] at hz
            exact hz⟩))
        clear cx2aa cx2ab lx2aa lx2ab lx2ac lx2ad
        intro y5 w5 kq5 hbl5 lw5 how hrr hfl hds
        replace ho := ho.keep kq5
        replace hp := hp.keep kq5
        replace hkp := hkp.trans kq5
        obtain ⟨_, z5_0, ez, _⟩ := how _ (List.Mem.head _)
        obtain rfl := ez (by simp)
        dsimp only at z5_0
        obtain ⟨_, z5_1, _, ez⟩ := how _ (List.Mem.tail _ (List.Mem.head _))
        obtain ⟨b9, A9, n9, c9, rfl, h9⟩ := ez (by simp)
        dsimp only at z5_1
        obtain ⟨_, z5_2, ez, _⟩ := how _ (List.Mem.tail _ (List.Mem.tail _ (List.Mem.head _)))
        obtain rfl := ez (by simp)
        dsimp only at z5_2
        (try dsimp only)
        clear hrr hfl how hds 
        clear x1a x2a x4a
        have bw5 := hbw.trans hbl5
        have cz5_1_0 : w5.cell? ⟨w1.heap.size, 0, none⟩ = some (.bool b9) := z5_1.cell 0
        have cz5_1_1 : w5.cell? ⟨w1.heap.size, 1, none⟩ = some (.slice A9 n9 c9) := z5_1.cell 1
        obtain ⟨lz5_1_0, lz5_1_1, lz5_1_2, lz5_1_3⟩ := lts0 z5_1.lt
        have cz5_2_0 : w5.cell? ⟨w3.heap.size, 0, none⟩ = some (.bool bs) := z5_2.cell 0
        have cz5_2_1 : w5.cell? ⟨w3.heap.size, 1, none⟩ = some (.slice As ns cs) := z5_2.cell 1
        obtain ⟨lz5_2_0, lz5_2_1, lz5_2_2, lz5_2_3⟩ := lts0 z5_2.lt
        go_wp2_with fail
        refine wp_region_lin (B := w.heap.size) (fr := fun xf => ⟨List.toArray (strV T :: strV B :: .int .i64 (N : Nat) :: undef :: undef :: undef :: .pointer (some ⟨w.heap.size, 0, none⟩) :: u7 :: .bool false :: .pointer (some ⟨w1.heap.size, 0, none⟩) :: .int .i64 0 :: .pointer (some ⟨w3.heap.size, 0, none⟩) :: .int .i64 (i : Nat) :: strV T :: .int .i64 (T.length : Nat) :: .bool true :: .bool true :: strV T :: .int .u8 (x0.toNat : Nat) :: .bool false :: .bool false :: .bool false :: undef :: undef :: .tuple #[.agg #[.bool b1, .slice A1 n1 c1], .int .i64 0] :: strV T :: .tuple #[.agg #[.bool b1, .slice A1 n1 c1], .int .i64 0] :: .agg #[.bool b1, .slice A1 n1 c1] :: .int .i64 0 :: .int .i64 0 :: .bool false :: .bool false :: .agg #[.bool b1, .slice A1 n1 c1] :: .int .i64 s :: .bool false :: .bool false :: .bool false :: strV B :: .int .i64 (B.length : Nat) :: .bool false :: .bool false :: .bool false :: .int .i64 (N : Nat) :: .bool false :: .bool false :: undef :: .agg #[.bool b3, .slice A3 n3 c3] :: strV B :: .int .i64 (B.length : Nat) :: .int .i64 (i : Nat) :: .bool true :: .int .i64 (i : Nat) :: strV B :: .int .i64 (i : Nat) :: .int .u8 (dn : Nat) :: .bool false :: .bool false :: strV B :: .int .i64 (i : Nat) :: .int .u8 (dn : Nat) :: .bool false :: .bool false :: u62 :: y5 0 :: y5 1 :: y5 2 :: y5 3 :: y5 4 :: y5 5 :: y5 6 :: y5 7 :: y5 8 :: y5 9 :: xf 0 :: xf 1 :: xf 2 :: u76 :: undef :: undef :: undef :: undef :: undef :: undef :: []), []⟩) (R := fun ri => List.getD ((PEq (.agg #[.bool bs, .slice As ns cs])) :: (VI ((10 : Int)) (1)) :: (VI ((((10 ^ i : Nat) : Int)) * ((10 : Int))) ((64) + (1))) :: PAny :: []) ri (fun _ _ => True)) (es := []) (ow := [⟨w.heap.size, 4, 0, 24, #[.bool false, .slice none 0 0, .slice none 0 0], CAny⟩, ⟨w1.heap.size, 4, 0, 46, #[.bool b9, .slice A9 n9 c9], CAny⟩, ⟨w3.heap.size, 3, 0, 46, #[.bool bs, .slice As ns cs], CI ((((10 ^ i : Nat) : Int)) * ((10 : Int))) ((64) + (1))⟩]) (x0 := (upd (upd (upd (fun _ => undef) 0 (u73)) 1 (u74)) 2 (u75))) (by kernel_rfl)
          (each_of ⟨fun _ _ => rfl, fun _ _ => rfl, fun _ _ => rfl, fun _ _ => rfl, trivial⟩) (each_of (acyc_from _ 0 (by kernel_rfl))) (AllStab.get _ ⟨stEq _, stI _ _, stI _ _, stAny, trivial⟩)
          (fun _ h => nomatch h) (List.forall_mem_cons.2 ⟨scAny, List.forall_mem_cons.2 ⟨scAny, List.forall_mem_cons.2 ⟨scI _ _, fun _ h => nomatch h⟩⟩⟩) (fun _ h => nomatch h) bw5.size
          (List.forall_mem_cons.2 ⟨⟨z5_0, by show w.heap.size ≤ w.heap.size; omega⟩, List.forall_mem_cons.2 ⟨⟨z5_1, by show w.heap.size ≤ w1.heap.size; omega⟩, List.forall_mem_cons.2 ⟨⟨z5_2, by show w.heap.size ≤ w3.heap.size; omega⟩, fun _ h => nomatch h⟩⟩⟩) (ownDist (by simp <;> omega))
          (each_of ⟨?_, ?_, ?_, ?_, trivial⟩) ?_
        · exact .inl ⟨by simp, by simp, fun xf wq hk hbl hd K hK => by
            have y : Blk wq w3.heap.size 46 #[.bool bs, .slice As ns cs] := hbl _ (List.Mem.tail _ (List.Mem.tail _ (List.Mem.head _))) (by simp [Region.binds])
            obtain ⟨hcl0, hcl1⟩ := y.c2
            (try dsimp only)
            go_simp
            exact hK.out (.agg #[.bool bs, .slice As ns cs]) _ rfl (brefl _)⟩
        · exact .inl ⟨by simp, by simp, fun xf wq hk hbl hd K hK => by
            (try dsimp only)
            go_simp
            go_at_call 91
            (with_reducible refine (r01_of1 _ (10) ?_ ?_).mono ?_); (first | omega | decide | assumption); (first | omega | decide | assumption); rintro e wr ⟨b12, A12, n12, c12, rfl, h12, hbr⟩
            exact hK.out _ _ ⟨b12, A12, n12, c12, rfl, h12⟩ hbr⟩
        · exact .inl ⟨by simp, by simp, fun xf wq hk hbl hd K hK => by
            have dq0 : xf 0 = .agg #[.bool bs, .slice As ns cs] := hd ⟨0, .data⟩ (by simp) rfl
            obtain ⟨b12, A12, n12, c12, dq1, h12⟩ : VI ((10 : Int)) (1) (xf 1) wq := hd ⟨1, .data⟩ (by simp) rfl
            (try dsimp only); (try simp only [dq0, dq1])
            go_simp
            go_at_call 112
            (with_reducible refine (r01_mul _ bs As ns cs (((10 ^ i : Nat) : Int)) (64) ?_ b12 A12 n12 c12 ((10 : Int)) (1) ?_ ?_).mono ?_); (exact (hp.keep hk).iz); (exact h12.iz); (first | omega | decide | assumption); rintro e wr ⟨b13, A13, n13, c13, rfl, h13, hbr⟩
            have hz := hK.out _ _ ⟨b13, A13, n13, c13, rfl, h13⟩ hbr
            simp only [dq0, dq1] at hz
            exact hz⟩
        · exact .inr (.inr (.inr ⟨⟨w3.heap.size, 3, 0, 46, #[.bool bs, .slice As ns cs], CI ((((10 ^ i : Nat) : Int)) * ((10 : Int))) ((64) + (1))⟩, by simp, rfl, by simp, by simp, (show KT 46 = false by decide), fun _ _ => True.intro, fun xf wq hblk hd => by
            obtain ⟨b13, A13, n13, c13, dq2, h13⟩ : VI ((((10 ^ i : Nat) : Int)) * ((10 : Int))) ((64) + (1)) (xf 2) wq := hd ⟨2, .data⟩ (by simp) rfl
            dsimp only at hblk
            refine ⟨[.bool b13, .slice A13 n13 c13], fun w' hk => ⟨b13, A13, n13, c13, rfl, h13.keep hk⟩, fun K hK => ?_⟩
            have hc0 : wq.cell? ⟨w3.heap.size, 0, none⟩ = some (.bool bs) := hblk.cell 0
            have hc1 : wq.cell? ⟨w3.heap.size, 1, none⟩ = some (.slice As ns cs) := hblk.cell 1
            have hf0 : wq.frozen? ⟨w3.heap.size, 0, none⟩ = false := hblk.frozen 0
            have hf1 : wq.frozen? ⟨w3.heap.size, 1, none⟩ = false := hblk.frozen 1
            (try dsimp only)
            simp only [dq2]
            go_simp
            have hz := hK.out undef
            simp only [dq2] at hz
            exact hz⟩))
        clear cz5_1_0 cz5_1_1 lz5_1_0 lz5_1_1 lz5_1_2 lz5_1_3 cz5_2_0 cz5_2_1 lz5_2_0 lz5_2_1 lz5_2_2 lz5_2_3
        intro y11 w11 kq11 hbl11 lw11 how hrr hfl hds
        replace ho := ho.keep kq11
        replace hp := hp.keep kq11
        replace h9 := h9.keep kq11
        replace hkp := hkp.trans kq11
        obtain ⟨_, z11_0, ez, _⟩ := how _ (List.Mem.head _)
        obtain rfl := ez (by simp)
        dsimp only at z11_0
        obtain ⟨_, z11_1, ez, _⟩ := how _ (List.Mem.tail _ (List.Mem.head _))
        obtain rfl := ez (by simp)
        dsimp only at z11_1
        obtain ⟨_, z11_2, _, ez⟩ := how _ (List.Mem.tail _ (List.Mem.tail _ (List.Mem.head _)))
        obtain ⟨b13, A13, n13, c13, rfl, h13⟩ := ez (by simp)
        dsimp only at z11_2
        (try dsimp only)
        clear hrr hfl how hds 
        clear z5_0 z5_1 z5_2
        have bw11 := bw5.trans hbl11
        clear bw5
        have cz11_2_0 : w11.cell? ⟨w3.heap.size, 0, none⟩ = some (.bool b13) := z11_2.cell 0
        have cz11_2_1 : w11.cell? ⟨w3.heap.size, 1, none⟩ = some (.slice A13 n13 c13) := z11_2.cell 1
        obtain ⟨lz11_2_0, lz11_2_1, lz11_2_2, lz11_2_3⟩ := lts0 z11_2.lt
        go_wp2_with fail
        have hN2 := h9.resz (K := 64) (by rw [HNI.out]; exact HB1.out)
        rw [HNI.out] at hN2
        have hS2 := h13.resz (K := 64) (by rw [ten_succ]; exact HB2.out)
        rw [ten_succ] at hS2
        clear cz11_2_0 cz11_2_1 lz11_2_0 lz11_2_1 lz11_2_2 lz11_2_3
        go_roundw
        case rel => exact ⟨i + 1, b9, A9, n9, c9, b13, A13, n13, c13, by go_num, by omega, HAL, hN2, hS2, hkp, bw11, by omega, z11_0, z11_1, z11_2⟩
        case measure => simp [intOf]; omega
      · have hor : dn < 48 ∨ (48 ≤ dn ∧ 57 < dn) := by
          unfold isDg at hdg; rw [hdn] at hdg; simp at hdg; omega
        have HR := Lib.hid (show x = 2 ∧ r = 0 by
          rcases HXR.out with ⟨e, _⟩ | ⟨_, e⟩
          · exact absurd (List.all_eq_true.1 e d (by rw [← hd]; exact List.getElem_mem _)) hdg
          · exact e)
        clear hd hdg hts
        rcases hor with h8 | ⟨h8, h82⟩
        · have cx1aa : wr.cell? ⟨w.heap.size, 0, none⟩ = some (.bool false) := x1a.cell 0
          have fx1aa : wr.frozen? ⟨w.heap.size, 0, none⟩ = false := x1a.frozen 0
          have cx1ab : wr.cell? ⟨w.heap.size, 1, none⟩ = some (.slice none 0 0) := x1a.cell 1
          have fx1ab : wr.frozen? ⟨w.heap.size, 1, none⟩ = false := x1a.frozen 1
          have cx1ac : wr.cell? ⟨w.heap.size, 2, none⟩ = some (.slice none 0 0) := x1a.cell 2
          have fx1ac : wr.frozen? ⟨w.heap.size, 2, none⟩ = false := x1a.frozen 2
          obtain ⟨lx1aa, lx1ab, lx1ac, lx1ad⟩ := lts0 x1a.lt
          go_wp2_with fail
          rw [HR.out.1, HR.out.2]
          refine bodyPost_ret (v := .tuple #[.agg #[.bool false, .slice none 0 0, .slice none 0 0], .int .i64 2]) (by simp [results, Tryz.results104, go_sem, *] <;> first | rfl | exact ⟨rfl, rfl⟩) rfl ?_
          exact ⟨_, _, _, _, _, _, _, rfl, QV.zero _ _, (((hbw.sc w.heap.size 0 (by omega) (.bool false)).sc w.heap.size 1 (by omega) (.slice none 0 0)).sc w.heap.size 2 (by omega) (.slice none 0 0))⟩
        · have cx1aa : wr.cell? ⟨w.heap.size, 0, none⟩ = some (.bool false) := x1a.cell 0
          have fx1aa : wr.frozen? ⟨w.heap.size, 0, none⟩ = false := x1a.frozen 0
          have cx1ab : wr.cell? ⟨w.heap.size, 1, none⟩ = some (.slice none 0 0) := x1a.cell 1
          have fx1ab : wr.frozen? ⟨w.heap.size, 1, none⟩ = false := x1a.frozen 1
          have cx1ac : wr.cell? ⟨w.heap.size, 2, none⟩ = some (.slice none 0 0) := x1a.cell 2
          have fx1ac : wr.frozen? ⟨w.heap.size, 2, none⟩ = false := x1a.frozen 2
          obtain ⟨lx1aa, lx1ab, lx1ac, lx1ad⟩ := lts0 x1a.lt
          go_wp2_with fail
          rw [HR.out.1, HR.out.2]
          refine bodyPost_ret (v := .tuple #[.agg #[.bool false, .slice none 0 0, .slice none 0 0], .int .i64 2]) (by simp [results, Tryz.results104, go_sem, *] <;> first | rfl | exact ⟨rfl, rfl⟩) rfl ?_
          exact ⟨_, _, _, _, _, _, _, rfl, QV.zero _ _, (((hbw.sc w.heap.size 0 (by omega) (.bool false)).sc w.heap.size 1 (by omega) (.slice none 0 0)).sc w.heap.size 2 (by omega) (.slice none 0 0))⟩
    · have hiN : i = B.length := by omega
      subst hiN
      have hall2 : B.all isDg = true := by have := hall.out; rw [List.take_length] at this; exact this
      have HR := Lib.hid (show x = 0 ∧ r = decQ T B by
        rcases HXR.out with ⟨_, e⟩ | ⟨e, _⟩
        · exact e
        · rw [hall2] at e; cases e)
      have HSQ := Lib.hid (show Sz (decQ T B) 64 by
        rw [← HQ.out]
        exact Sz_divInt (by exact NI_lt HX3.out.1 hall2 (Nat.le_refl _) HX3.out.2) (ten_lt hB64) (by decide))
      clear hall2
      obtain ⟨cx2aa, cx2ab⟩ := x2a.c2
      obtain ⟨lx2aa, lx2ab, lx2ac, lx2ad⟩ := lts0 x2a.lt
      obtain ⟨cx4aa, cx4ab⟩ := x4a.c2
      obtain ⟨lx4aa, lx4ab, lx4ac, lx4ad⟩ := lts0 x4a.lt
      go_wp2_with fail
      (with_reducible refine (g_form _ bn An nn cn (NI (X : Int) B B.length) (64) ?_ bs As ns cs (((10 ^ B.length : Nat) : Int)) (64) ?_ (decQ T B) 64 ?_ ?_ ?_ ?_).mono ?_); (exact ho.iz); (exact hp.iz); (exact ten_ne _); (exact HQ.out); (exact HSQ.out); (omega); rintro e w5 ⟨b5, A5, n5, c5, A'5, n'5, c'5, rfl, h5, q5⟩
      clear cx2aa cx2ab lx2aa lx2ab lx2ac lx2ad cx4aa cx4ab lx4aa lx4ab lx4ac lx4ad
      replace ho := ho.belw q5
      replace hp := hp.belw q5
      replace hkp := hkp.below q5
      replace x1a := x1a.b q5
      replace x2a := x2a.b q5
      replace x4a := x4a.b q5
      have bw5 := hbw.trans (q5.mono hbw.size)
      have lw5 := q5.size
      clear q5
      obtain ⟨cx1aa, cx1ab, cx1ac⟩ := x1a.c3
      obtain ⟨fx1aa, fx1ab, fx1ac⟩ := x1a.f3
      obtain ⟨lx1aa, lx1ab, lx1ac, lx1ad⟩ := lts0 x1a.lt
      go_wp2_with fail
      refine bodyPost_ret (v := .tuple #[.agg #[.bool b5, .slice A5 n5 c5, .slice A'5 n'5 c'5], .int .i64 0]) (by simp [results, Tryz.results104, go_sem, *] <;> first | rfl | exact ⟨rfl, rfl⟩) rfl ?_
      rw [HR.out.1, HR.out.2]
      exact ⟨_, _, _, _, _, _, _, rfl, (h5).keep ((((Kp.refl w5).sb w.heap.size 0 x1a.box (by decide) (.bool b5)).sb w.heap.size 1 (x1a.box.set ⟨w.heap.size, 0, none⟩ (.bool b5)) (by decide) (.slice A5 n5 c5)).sb w.heap.size 2 ((x1a.box.set ⟨w.heap.size, 0, none⟩ (.bool b5)).set ⟨w.heap.size, 1, none⟩ (.slice A5 n5 c5)) (by decide) (.slice A'5 n'5 c'5)), (((bw5.sc w.heap.size 0 (by omega) (.bool b5)).sc w.heap.size 1 (by omega) (.slice A5 n5 c5)).sc w.heap.size 2 (by omega) (.slice A'5 n'5 c'5))⟩
theorem g_dec_0 (w : World) (B : List UInt8) (N : Nat) :
  Calls Tryz.prog 104 #[strV [], strV B, .int .i64 (N : Nat)] w (RetFe w (.int .i64 2) 0 64) := by
 obtain ⟨T, hT⟩ : ∃ T : List UInt8, T = [] := ⟨_, rfl⟩
 have hszF := size_v []
 have HO := Lib.hid (show okZ [] = false from rfl)
 go_enter Tryz.func104, Tryz.ntmps104
 go_wp2_with fail
 (with_reducible refine (r_parse_bad _ ([]) (by simp) HO.out).mono ?_); rintro e w1 ⟨b1, A1, n1, c1, rfl, h1, hb1⟩
 have q1 := ((Below.refl _ _).alloc (Nat.le_refl _) _).trans (hb1.mono (by simp))
 have x1a : Blk w1 w.heap.size 24 #[.bool false, .slice none 0 0, .slice none 0 0] := (blkAt _ _ _ (by simp)).below hb1 (by simp)
 have bw1 := (brefl w).trans (q1.mono (brefl w).size)
 have lw1 : w.heap.size + 1 ≤ w1.heap.size := by have := hb1.size; simp at this; omega
 clear q1
 obtain ⟨cx1aa, cx1ab, cx1ac⟩ := x1a.c3
 obtain ⟨fx1aa, fx1ab, fx1ac⟩ := x1a.f3
 obtain ⟨lx1aa, lx1ab, lx1ac, lx1ad⟩ := lts0 x1a.lt
 go_wp2_with fail
 refine bodyPost_ret (v := .tuple #[.agg #[.bool false, .slice none 0 0, .slice none 0 0], .int .i64 2]) (by simp [results, Tryz.results104, go_sem, *] <;> first | rfl | exact ⟨rfl, rfl⟩) rfl ?_
 exact ⟨_, _, _, _, _, _, _, rfl, QV.zero _ _, ((((bw1.sc w.heap.size 0 (by omega) (.bool false)).sc w.heap.size 1 (by omega) (.slice none 0 0)).sc w.heap.size 2 (by omega) (.slice none 0 0)).alloc (by first | omega | (simp <;> omega)) (.cells #[.bool b1, .slice A1 n1 c1] 46))⟩
end Go.Proofs.YtkpjhmpjihchpaaGreatDoor

namespace Go.Proofs.YtkpjhmpjihchpaaGreatDoor
open Go Go.RowKit Bn
attribute [local go_sem ↓] Go.wp_at_zero Go.wp_at_succ
theorem g_dec_o (w : World) (F B : List UInt8) (N : Nat) (hN : F.length + B.length + 1 = N) (hN6 : N ≤ 65536) (x : Int) (q : Rat) (h : (N ≤ 64 ∧ decOk F B = true ∧ x = 0 ∧ q = decQ F B) ∨ ((64 < N ∨ decOk F B = false) ∧ x = 2 ∧ q = 0)) : Calls Tryz.prog 104 #[strV F, strV B, .int .i64 (N : Nat)] w (RetFe w (.int .i64 x) q 64) := by
  have hF6 : F.length ≤ 65536 := by omega
  rcases h with ⟨h64, h, rfl, rfl⟩ | ⟨h, rfl, rfl⟩
  · obtain ⟨h1, h2, h3, h4⟩ := decOk_parts h
    cases hm : headM F
    · have hF : F ≠ [] := fun e => by subst e; cases h1
      exact g_dec_okf w F B N (by omega) hm hF h1 h2 h3 h64 0 _ (.inl ⟨h4, rfl, rfl⟩)
    · exact g_dec_okt w F B N (by omega) hm h1 h2 h3 h64 0 _ (.inl ⟨h4, rfl, rfl⟩)
  · by_cases hF : F = []
    · subst hF; exact g_dec_0 w B N
    · cases ho : okZ (tailS F)
      · cases hm : headM F
        · exact g_dec_1f w F B N hF6 hm hF ho
        · exact g_dec_1t w F B N hF6 hm ho
      · by_cases hz : valZ (tailS F) < 0
        · have hs := Int.sign_eq_neg_one_iff_neg.2 hz
          cases hm : headM F
          · exact g_dec_2f w F B N hF6 hm hF ho hs
          · exact g_dec_2t w F B N hF6 hm ho hs
        · have hs := sign_nn (show 0 ≤ valZ (tailS F) by omega)
          by_cases hB : B = []
          · have hB0 : B.length = 0 := by rw [hB]; rfl
            cases hm : headM F
            · exact g_dec_3f w F B N hF6 hm hF ho hs hB0
            · exact g_dec_3t w F B N hF6 hm ho hs hB0
          · by_cases h64 : 64 < N
            · cases hm : headM F
              · exact g_dec_5f w F B N hF6 hm hF ho hs hB h64
              · exact g_dec_5t w F B N hF6 hm ho hs hB h64
            · have ha : B.all isDg = false := by
                rcases h with h | h
                · exact absurd h h64
                · rcases decOk_not h with h1 | ⟨h1, h2⟩ | ⟨h1, h2, h3⟩ | ⟨h1, h2, h3, h4⟩
                  · rw [ho] at h1; cases h1
                  · exact absurd h2 hz
                  · exact absurd h3 hB
                  · exact h4
              cases hm : headM F
              · exact g_dec_okf w F B N (by omega) hm hF ho (by omega) hB (by omega) 2 _ (.inr ⟨ha, rfl, rfl⟩)
              · exact g_dec_okt w F B N (by omega) hm ho (by omega) hB (by omega) 2 _ (.inr ⟨ha, rfl, rfl⟩)
end Go.Proofs.YtkpjhmpjihchpaaGreatDoor

namespace Go.Proofs.YtkpjhmpjihchpaaGreatDoor
open Go Go.RowKit Bn
attribute [local go_sem ↓] Go.wp_at_zero Go.wp_at_succ
theorem r01_cmp_v (w : World) (b : Bool) (A : Option Addr) (n c : Nat) (z : Int) (k : Nat) (h : IZ w b A n c z k) (b' : Bool) (A' : Option Addr) (n' c' : Nat) (z' : Int) (k' : Nat) (h' : IZ w b' A' n' c' z' k') (v : Int) (hv : cmpI z z' = v) (hk : k + k' ≤ 999999999) : Calls Tryz.prog 98 #[.agg #[.bool b, .slice A n c], .agg #[.bool b', .slice A' n' c']] w (RetV w (.int .i64 v)) := by
  subst hv; exact r01_cmp w b A n c z k h b' A' n' c' z' k' h' hk
theorem g_text_1 (w : World) (b : Bool) (A : Option Addr) (n c : Nat) (D : Option Addr) (m e : Nat) (q : Rat) (k : Nat) (h : QZ w b A n c D m e q k) (h0 : 0 < k) (hk : k ≤ 40000000) (hd : q.den = 1) :
    Calls Tryz.prog 40 #[.agg #[.bool b, .slice A n c, .slice D m e]] w (RetV w (strV (ratText q))) := by
  rw [ratText_1 hd]
  have HC := Lib.hid (show cmpI (q.den : Int) 1 = 0 by rw [hd]; exact cmpI_one)
  clear hd
  go_enter Tryz.func40, Tryz.ntmps40
  go_wp2_with fail
  (with_reducible refine (g_parts _ b A n c D m e (q) (k) ?_ ?_ ?_).mono ?_); (exact (h.belw ((Below.refl _ _).alloc (Nat.le_refl _) _))); (first | omega | decide | assumption); (first | omega | decide | assumption); rintro e w1 ⟨b1, A1, n1, c1, b'1, A'1, n'1, c'1, rfl, h1, h'1, hb1⟩
  have q1 := ((Below.refl _ _).alloc (Nat.le_refl _) _).trans (hb1.mono (by simp))
  replace h := h.belw q1
  have x1a : Blk w1 w.heap.size 24 #[.bool b, .slice A n c, .slice D m e] := (blkAt _ _ _ (by simp)).below hb1 (by simp)
  have bw1 := (brefl w).trans (q1.mono (brefl w).size)
  have lw1 : w.heap.size + 1 ≤ w1.heap.size := by have := hb1.size; simp at this; omega
  clear q1
  go_wp2_with fail
  have p2 := (((Kp.refl w1).alloc (.cells #[.bool b1, .slice A1 n1 c1] 46)).alloc (.cells #[.bool b'1, .slice A'1 n'1 c'1] 46))
  have bw2 := ((bw1.alloc (by first | omega | (simp <;> omega)) (.cells #[.bool b1, .slice A1 n1 c1] 46)).alloc (by first | omega | (simp <;> omega)) (.cells #[.bool b'1, .slice A'1 n'1 c'1] 46))
  have x2a : Blk ((w1.alloc (.cells #[.bool b1, .slice A1 n1 c1] 46)).alloc (.cells #[.bool b'1, .slice A'1 n'1 c'1] 46)) w1.heap.size 46 #[.bool b1, .slice A1 n1 c1] := ((blkAt _ _ _ (by simp)).alloc (.cells #[.bool b'1, .slice A'1 n'1 c'1] 46))
  have x2b : Blk ((w1.alloc (.cells #[.bool b1, .slice A1 n1 c1] 46)).alloc (.cells #[.bool b'1, .slice A'1 n'1 c'1] 46)) (w1.heap.size + 1) 46 #[.bool b'1, .slice A'1 n'1 c'1] := (blkAt _ _ _ (by simp))
  replace x1a := ((x1a.alloc (.cells #[.bool b1, .slice A1 n1 c1] 46)).alloc (.cells #[.bool b'1, .slice A'1 n'1 c'1] 46))
  have lw2 : w1.heap.size + 2 ≤ ((w1.alloc (.cells #[.bool b1, .slice A1 n1 c1] 46)).alloc (.cells #[.bool b'1, .slice A'1 n'1 c'1] 46)).heap.size := by simp
  generalize hE2 : ((w1.alloc (.cells #[.bool b1, .slice A1 n1 c1] 46)).alloc (.cells #[.bool b'1, .slice A'1 n'1 c'1] 46)) = w2 at p2 bw2 lw2 x2a x2b x1a ⊢
  clear hE2
  replace h := h.keep p2
  replace h1 := h1.keep p2
  replace h'1 := h'1.keep p2
  clear bw1
  obtain ⟨lx1aa, lx1ab, lx1ac, lx1ad⟩ := lts0 x1a.lt
  obtain ⟨lx2aa, lx2ab, lx2ac, lx2ad⟩ := lts0 x2a.lt
  obtain ⟨cx2ba, cx2bb⟩ := x2b.c2
  obtain ⟨lx2ba, lx2bb, lx2bc, lx2bd⟩ := lts1 x2b.lt
  go_region_held3 (fun w' => Sees w2.heap.size w2 w') (first | with_reducible exact Sees.of (Nat.le_refl _) (by assumption) | with_reducible exact Sees.of (Nat.le_refl _) (brefl _).drew | exact Sees.of (Nat.le_refl _) (below_drewN (brefl _) 1) | exact Sees.of (Nat.le_refl _) (below_drewN (by assumption) _))
    (first
      | (go_at_call 94; (with_reducible refine (g_one _).mono ?_); rintro e w3 ⟨b3, A3, n3, c3, rfl, h3, hb3⟩; replace hb3 := bnext (below_drewN (brefl _) 1) hb3; have q3 : Below w2.heap.size w2 w3 := bnext (brefl w2) hb3; replace h := h.belw hb3; replace h1 := h1.belw hb3; replace h'1 := h'1.belw hb3)
      | (go_at_call 98; (with_reducible refine (r01_cmp_v _ b'1 A'1 n'1 c'1 (((q).den : Int)) ((k)) ?_ b3 A3 n3 c3 (1) (1) ?_ 0 HC.out ?_).mono ?_); (exact h'1.iz); (exact h3.iz); (first | omega | decide | assumption); rintro e w4 ⟨rfl, hb4⟩; have q4 : Below w2.heap.size w2 w4 := bnext q3 hb4; replace h := h.belw hb4; replace h1 := h1.belw hb4; replace h'1 := h'1.belw hb4; replace h3 := h3.belw hb4))
  have bw4 := bw2.trans (q4.mono bw2.size)
  clear lx1aa lx1ab lx1ac lx1ad lx2aa lx2ab lx2ac lx2ad cx2ba cx2bb lx2ba lx2bb lx2bc lx2bd
  replace x1a := x1a.b q4
  replace x2a := x2a.b q4
  replace x2b := x2b.b q4
  have lw4 := q4.size
  obtain ⟨cx2aa, cx2ab⟩ := x2a.c2
  obtain ⟨lx2aa, lx2ab, lx2ac, lx2ad⟩ := lts0 x2a.lt
  go_wp2_with fail
  (with_reducible refine (r01_text_l _ b1 A1 n1 c1 ((q).num) ((k)) ?_ (Lib.itoa q.num) ?_ ?_).mono ?_); (exact h1.iz); (first | omega | decide | assumption); (exact rfl); rintro e w5 ⟨rfl, q5⟩
  clear cx2aa cx2ab lx2aa lx2ab lx2ac lx2ad
  replace h := h.belw q5
  replace h1 := h1.belw q5
  replace h'1 := h'1.belw q5
  replace h3 := h3.belw q5
  replace x1a := x1a.b q5
  replace x2a := x2a.b q5
  replace x2b := x2b.b q5
  have bw5 := bw4.trans (q5.mono bw4.size)
  have lw5 := q5.size
  clear q5 bw4
  go_wp2_with fail
  go_ret
  exact ⟨rfl, bw5⟩
theorem g_text_2 (w : World) (b : Bool) (A : Option Addr) (n c : Nat) (D : Option Addr) (m e : Nat) (q : Rat) (k : Nat) (h : QZ w b A n c D m e q k) (h0 : 0 < k) (hk : k ≤ 40000000) (hd : q.den ≠ 1) :
    Calls Tryz.prog 40 #[.agg #[.bool b, .slice A n c, .slice D m e]] w (RetV w (strV (ratText q))) := by
  rw [ratText_2 hd]
  obtain ⟨u, hu⟩ : ∃ u, cmpI (q.den : Int) 1 = u := ⟨_, rfl⟩
  have hu0 : u ≠ 0 := by rw [← hu]; exact cmpI_ne (by omega)
  have e0 : ((u : Int) == 0) = false := by simp; exact hu0
  have HC := Lib.hid hu
  obtain ⟨X, hX⟩ : ∃ X, Lib.itoa q.num = X := ⟨_, rfl⟩
  obtain ⟨Y, hY⟩ : ∃ Y, Lib.itoa (q.den : Int) = Y := ⟨_, rfl⟩
  have hs := h.sz h0
  have hx1 : (⟨X.toArray⟩ : ByteArray).size ≤ 1000000000 := by show X.length ≤ _; rw [← hX]; have := itoa_le hs.1 hk (by omega); omega
  have hy1 : (⟨Y.toArray⟩ : ByteArray).size ≤ 1000000000 := by show Y.length ≤ _; rw [← hY]; have := itoa_le (z := (q.den : Int)) (by simpa using hs.2) hk (by omega); omega
  obtain ⟨N, hN⟩ : ∃ N, (⟨X.toArray⟩ : ByteArray).size = N := ⟨_, rfl⟩
  obtain ⟨M, hM⟩ : ∃ M, (⟨Y.toArray⟩ : ByteArray).size = M := ⟨_, rfl⟩
  rw [hN] at hx1
  rw [hM] at hy1
  have hc1 : (9223372036854775807 < N + 1) = False := by simp; omega
  have hc2 : (9223372036854775807 ≤ N) = False := by simp; omega
  have hc3 : (9223372036854775807 < N + 1 + M) = False := by simp; omega
  rw [hX, hY]
  have HX := Lib.hid hX
  have HY := Lib.hid hY
  clear hd hu hu0 hX hY hs
  go_enter Tryz.func40, Tryz.ntmps40
  go_wp2_with fail
  (with_reducible refine (g_parts _ b A n c D m e (q) (k) ?_ ?_ ?_).mono ?_); (exact (h.belw ((Below.refl _ _).alloc (Nat.le_refl _) _))); (first | omega | decide | assumption); (first | omega | decide | assumption); rintro e w1 ⟨b1, A1, n1, c1, b'1, A'1, n'1, c'1, rfl, h1, h'1, hb1⟩
  have q1 := ((Below.refl _ _).alloc (Nat.le_refl _) _).trans (hb1.mono (by simp))
  replace h := h.belw q1
  have x1a : Blk w1 w.heap.size 24 #[.bool b, .slice A n c, .slice D m e] := (blkAt _ _ _ (by simp)).below hb1 (by simp)
  have bw1 := (brefl w).trans (q1.mono (brefl w).size)
  have lw1 : w.heap.size + 1 ≤ w1.heap.size := by have := hb1.size; simp at this; omega
  clear q1
  go_wp2_with fail
  have p2 := (((Kp.refl w1).alloc (.cells #[.bool b1, .slice A1 n1 c1] 46)).alloc (.cells #[.bool b'1, .slice A'1 n'1 c'1] 46))
  have bw2 := ((bw1.alloc (by first | omega | (simp <;> omega)) (.cells #[.bool b1, .slice A1 n1 c1] 46)).alloc (by first | omega | (simp <;> omega)) (.cells #[.bool b'1, .slice A'1 n'1 c'1] 46))
  have x2a : Blk ((w1.alloc (.cells #[.bool b1, .slice A1 n1 c1] 46)).alloc (.cells #[.bool b'1, .slice A'1 n'1 c'1] 46)) w1.heap.size 46 #[.bool b1, .slice A1 n1 c1] := ((blkAt _ _ _ (by simp)).alloc (.cells #[.bool b'1, .slice A'1 n'1 c'1] 46))
  have x2b : Blk ((w1.alloc (.cells #[.bool b1, .slice A1 n1 c1] 46)).alloc (.cells #[.bool b'1, .slice A'1 n'1 c'1] 46)) (w1.heap.size + 1) 46 #[.bool b'1, .slice A'1 n'1 c'1] := (blkAt _ _ _ (by simp))
  replace x1a := ((x1a.alloc (.cells #[.bool b1, .slice A1 n1 c1] 46)).alloc (.cells #[.bool b'1, .slice A'1 n'1 c'1] 46))
  have lw2 : w1.heap.size + 2 ≤ ((w1.alloc (.cells #[.bool b1, .slice A1 n1 c1] 46)).alloc (.cells #[.bool b'1, .slice A'1 n'1 c'1] 46)).heap.size := by simp
  generalize hE2 : ((w1.alloc (.cells #[.bool b1, .slice A1 n1 c1] 46)).alloc (.cells #[.bool b'1, .slice A'1 n'1 c'1] 46)) = w2 at p2 bw2 lw2 x2a x2b x1a ⊢
  clear hE2
  replace h := h.keep p2
  replace h1 := h1.keep p2
  replace h'1 := h'1.keep p2
  clear bw1
  obtain ⟨lx1aa, lx1ab, lx1ac, lx1ad⟩ := lts0 x1a.lt
  obtain ⟨lx2aa, lx2ab, lx2ac, lx2ad⟩ := lts0 x2a.lt
  obtain ⟨cx2ba, cx2bb⟩ := x2b.c2
  obtain ⟨lx2ba, lx2bb, lx2bc, lx2bd⟩ := lts1 x2b.lt
  go_region_held3 (fun w' => Sees w2.heap.size w2 w') (first | with_reducible exact Sees.of (Nat.le_refl _) (by assumption) | with_reducible exact Sees.of (Nat.le_refl _) (brefl _).drew | exact Sees.of (Nat.le_refl _) (below_drewN (brefl _) 1) | exact Sees.of (Nat.le_refl _) (below_drewN (by assumption) _))
    (first
      | (go_at_call 94; (with_reducible refine (g_one _).mono ?_); rintro e w3 ⟨b3, A3, n3, c3, rfl, h3, hb3⟩; replace hb3 := bnext (below_drewN (brefl _) 1) hb3; have q3 : Below w2.heap.size w2 w3 := bnext (brefl w2) hb3; replace h := h.belw hb3; replace h1 := h1.belw hb3; replace h'1 := h'1.belw hb3)
      | (go_at_call 98; (with_reducible refine (r01_cmp_v _ b'1 A'1 n'1 c'1 (((q).den : Int)) ((k)) ?_ b3 A3 n3 c3 (1) (1) ?_ u HC.out ?_).mono ?_); (exact h'1.iz); (exact h3.iz); (first | omega | decide | assumption); rintro e w4 ⟨rfl, hb4⟩; have q4 : Below w2.heap.size w2 w4 := bnext q3 hb4; replace h := h.belw hb4; replace h1 := h1.belw hb4; replace h'1 := h'1.belw hb4; replace h3 := h3.belw hb4))
  have bw4 := bw2.trans (q4.mono bw2.size)
  clear lx1aa lx1ab lx1ac lx1ad lx2aa lx2ab lx2ac lx2ad cx2ba cx2bb lx2ba lx2bb lx2bc lx2bd
  replace x1a := x1a.b q4
  replace x2a := x2a.b q4
  replace x2b := x2b.b q4
  have lw4 := q4.size
  obtain ⟨lx1aa, lx1ab, lx1ac, lx1ad⟩ := lts0 x1a.lt
  obtain ⟨cx2aa, cx2ab⟩ := x2a.c2
  obtain ⟨lx2aa, lx2ab, lx2ac, lx2ad⟩ := lts0 x2a.lt
  obtain ⟨cx2ba, cx2bb⟩ := x2b.c2
  obtain ⟨lx2ba, lx2bb, lx2bc, lx2bd⟩ := lts1 x2b.lt
  go_wp2_with fail
  go_region_held3 (fun w' => Sees w4.heap.size w4 w') (first | with_reducible exact Sees.of (Nat.le_refl _) (by assumption) | with_reducible exact Sees.of (Nat.le_refl _) (brefl _).drew | exact Sees.of (Nat.le_refl _) (below_drewN (brefl _) 1) | exact Sees.of (Nat.le_refl _) (below_drewN (by assumption) _))
    (first
      | (go_at_call 105; (with_reducible refine (r01_text_l _ b1 A1 n1 c1 ((q).num) ((k)) ?_ X ?_ ?_).mono ?_); (exact h1.iz); (first | omega | decide | assumption); (exact HX.out); rintro e w5 ⟨rfl, hb5⟩; replace hb5 := bnext (below_drewN (brefl _) 1) hb5; have q5 : Below w4.heap.size w4 w5 := bnext (brefl w4) hb5; replace h := h.belw hb5; replace h1 := h1.belw hb5; replace h'1 := h'1.belw hb5; replace h3 := h3.belw hb5)
      | (go_at_call 105; (with_reducible refine (r01_text_l _ b'1 A'1 n'1 c'1 (((q).den : Int)) ((k)) ?_ Y ?_ ?_).mono ?_); (exact h'1.iz); (first | omega | decide | assumption); (exact HY.out); rintro e w6 ⟨rfl, hb6⟩; have q6 : Below w4.heap.size w4 w6 := bnext q5 hb6; replace h := h.belw hb6; replace h1 := h1.belw hb6; replace h'1 := h'1.belw hb6; replace h3 := h3.belw hb6))
  have bw6 := bw4.trans (q6.mono bw4.size)
  clear lx1aa lx1ab lx1ac lx1ad cx2aa cx2ab lx2aa lx2ab lx2ac lx2ad cx2ba cx2bb lx2ba lx2bb lx2bc lx2bd
  replace x1a := x1a.b q6
  replace x2a := x2a.b q6
  replace x2b := x2b.b q6
  have lw6 := q6.size
  go_wp2_with fail
  go_ret
  refine ⟨?_, bw6⟩
  exact congrArg (fun x => Ending.returned (.string x)) (cat_slash X Y)
theorem g_text (w : World) (b : Bool) (A : Option Addr) (n c : Nat) (D : Option Addr) (m e : Nat) (q : Rat) (k : Nat) (h : QZ w b A n c D m e q k) (h0 : 0 < k) (hk : k ≤ 40000000) (T : List UInt8) (hT : ratText q = T) : Calls Tryz.prog 40 #[.agg #[.bool b, .slice A n c, .slice D m e]] w (RetV w (strV T)) := by
  subst hT
  by_cases hd : q.den = 1
  · exact g_text_1 w b A n c D m e q k h h0 hk hd
  · exact g_text_2 w b A n c D m e q k h h0 hk hd
end Go.Proofs.YtkpjhmpjihchpaaGreatDoor

namespace Go.Proofs.YtkpjhmpjihchpaaGreatDoor
open Go Go.RowKit Bn
attribute [local go_sem ↓] Go.wp_at_zero Go.wp_at_succ
theorem r_parse_ok6 (w : World) (l : List UInt8) (hl : l.length ≤ 65536) (hb : okZ l = true) : Calls Tryz.prog 103 #[strV l] w (RetIe w (.int .i64 0) (valZ l) 65536) :=
  (r_parse_ok w l hl hb).mono fun _ _ r => r.mono hl
theorem g_text_v (w : World) (b : Bool) (A : Option Addr) (n c : Nat) (D : Option Addr) (m e : Nat) (q : Rat) (k : Nat) (h : QZ w b A n c D m e q k) (X : List UInt8) (hX : ratText q = X) (h0 : 0 < k) (hk : k ≤ 40000000) : Calls Tryz.prog 40 #[.agg #[.bool b, .slice A n c, .slice D m e]] w (RetV w (strV X)) := by
  subst hX; exact g_text w b A n c D m e q k h h0 hk _ rfl
theorem g_parse_big (w : World) (s : List UInt8) (hl : 65536 < s.length) :
  Calls Tryz.prog 38 #[strV s] w (RetFe w (.int .i64 4) 0 1) := by
 have hszs := size_v s
 have hlen : ((65536 : Int) < (s.length : Int)) = True := by simp; omega
 go_enter Tryz.func38, Tryz.ntmps38
 go_wp2_with fail
 refine bodyPost_ret (v := .tuple #[.agg #[.bool false, .slice none 0 0, .slice none 0 0], .int .i64 4]) (by simp [results, Tryz.results38, go_sem, *] <;> first | rfl | exact ⟨rfl, rfl⟩) rfl ?_
 exact ⟨_, _, _, _, _, _, _, rfl, QV.zero _ _, ((brefl w).alloc (by first | omega | (simp <;> omega)) (.cells #[.bool false, .slice none 0 0, .slice none 0 0] 24))⟩
theorem g_parse_dot (w : World) (s F B : List UInt8) (hl : s.length ≤ 65536) (hs : s = F ++ 46 :: B) (hF : ∀ c ∈ F, c ≠ 47 ∧ c ≠ 46) (x : Int) (q : Rat) (hx : (s.length ≤ 64 ∧ decOk F B = true ∧ x = 0 ∧ q = decQ F B) ∨ ((64 < s.length ∨ decOk F B = false) ∧ x = 2 ∧ q = 0)) :
    Calls Tryz.prog 38 #[strV s] w (RetFe w (.int .i64 x) q 64) := by
  have hFB : F.length + B.length + 1 = s.length := by rw [hs]; simp; omega
  have HX := Lib.hid hx
  clear hx
  have hszs := size_v s
  have hlen : ((65536 : Int) < (s.length : Int)) = False := by simp; omega
  have hFs : F.length < s.length := by rw [hs]; simp
  have hpre : ∀ (i : Nat) (hi : i < F.length) (hi2 : i < s.length), s[i] ≠ 47 ∧ s[i] ≠ 46 := fun i hi hi2 => by
    have e : s[i] = F[i] := by subst hs; exact List.getElem_append_left hi
    rw [e]; exact hF _ (List.getElem_mem _)
  have hat : ∀ h : F.length < s.length, s[F.length] = 46 := fun h => by subst hs; simp
  have e1 : (⟨s.toArray⟩ : ByteArray).extract 0 F.length = ⟨F.toArray⟩ := by rw [ext_v, hs]; simp
  have e2 : (⟨s.toArray⟩ : ByteArray).extract (F.length + 1) s.length = ⟨B.toArray⟩ := by
    rw [ext_v, hs]; simp; exact List.take_of_length_le (by omega)
  have hF6 : F.length ≤ 65536 := by omega
  have hB6 : B.length ≤ 65536 := by rw [hs] at hl; simp at hl; omega
  have HP := Lib.hid hpre
  have HA := Lib.hid hat
  clear hpre hat hF
  clear hs
  go_enter Tryz.func38, Tryz.ntmps38
  go_wp2_with fail
  have p1 := ((Kp.refl w).alloc (.cells #[.bool false, .slice none 0 0, .slice none 0 0] 24))
  have bw1 := ((brefl w).alloc (by first | omega | (simp <;> omega)) (.cells #[.bool false, .slice none 0 0, .slice none 0 0] 24))
  have x1a : Blk (w.alloc (.cells #[.bool false, .slice none 0 0, .slice none 0 0] 24)) w.heap.size 24 #[.bool false, .slice none 0 0, .slice none 0 0] := (blkAt _ _ _ (by simp))
  have lw1 : w.heap.size + 1 ≤ (w.alloc (.cells #[.bool false, .slice none 0 0, .slice none 0 0] 24)).heap.size := by simp
  generalize hE1 : (w.alloc (.cells #[.bool false, .slice none 0 0, .slice none 0 0] 24)) = w1 at p1 bw1 lw1 x1a ⊢
  clear hE1
  go_loopw [17] (fun iv wr => ∃ (i : Nat), iv = .int .i64 (i : Nat) ∧ i ≤ F.length ∧ Kp w1 wr ∧ Below w.heap.size w wr ∧ w1.heap.size ≤ wr.heap.size ∧ Blk wr w.heap.size 24 #[.bool false, .slice none 0 0, .slice none 0 0]) (fun iv _ => s.length - (intOf iv).toNat)
  case atStart => exact ⟨0, rfl, Nat.zero_le _, Kp.refl _, bw1, Nat.le_refl _, x1a⟩
  case round =>
    clear x1a
    obtain ⟨i, rfl, hi, hkp, hbw, hlw, x1a⟩ := hrel
    by_cases hlt : i < F.length
    · obtain ⟨d, hd⟩ : ∃ d, s[i]'(by omega) = d := ⟨_, rfl⟩
      have hget : ∀ h, (⟨s.toArray⟩ : ByteArray)[i]'h = d := fun h => hd
      have hne := HP.out i hlt (by omega)
      rw [hd] at hne
      obtain ⟨dn, hdn⟩ : ∃ dn, d.toNat = dn := ⟨_, rfl⟩
      have h47 : ((dn : Int) == 47) = false := by simp; intro e; exact hne.1 (UInt8.toNat.inj (by rw [hdn]; show dn = 47; omega))
      have h46 : ((dn : Int) == 46) = false := by simp; intro e; exact hne.2 (UInt8.toNat.inj (by rw [hdn]; show dn = 46; omega))
      have hlts : i < s.length := by omega
      clear hd hne
      go_wp2_with fail
      go_roundw
      case rel => exact ⟨i + 1, by go_num, by omega, hkp, hbw, by omega, x1a⟩
      case measure => simp [intOf]; omega
    · have hiF : i = F.length := by omega
      subst hiF
      have hget : ∀ h, (⟨s.toArray⟩ : ByteArray)[F.length]'h = 46 := fun h => HA.out h
      have hw1 : IntKind.i64.wrap ((F.length : Int) + 1) = (F.length : Int) + 1 := IntWalk.i64_in _ ⟨by omega, by omega⟩
      have hi0 : (0 : Int) ≤ (F.length : Int) := by omega
      have hiL : (F.length : Int) ≤ (s.length : Int) := by omega
      have hiL2 : (F.length : Int) + 1 ≤ (s.length : Int) := by omega
      have hi1 : (0 : Int) ≤ (F.length : Int) + 1 := by omega
      have et : ((F.length : Int) + 1).toNat = F.length + 1 := by omega
      clear hi hlt
      obtain ⟨cx1aa, cx1ab, cx1ac⟩ := x1a.c3
      obtain ⟨fx1aa, fx1ab, fx1ac⟩ := x1a.f3
      obtain ⟨lx1aa, lx1ab, lx1ac, lx1ad⟩ := lts0 x1a.lt
      go_wp2_with fail
      go_region_held3 (fun w' => SeesX wr.heap.size (w.heap.size) wr w') (first | with_reducible exact SeesX.of (Nat.le_refl _) (by assumption) | with_reducible exact SeesX.of (Nat.le_refl _) (brefl _).drew | with_reducible exact (SeesX.set (SeesX.set (SeesX.set (SeesX.of (Nat.le_refl _) (by assumption))))) | with_reducible exact (SeesX.set (SeesX.set (SeesX.of (Nat.le_refl _) (by assumption)))) | with_reducible exact (SeesX.set (SeesX.of (Nat.le_refl _) (by assumption))) | exact SeesX.of (Nat.le_refl _) (below_drewN (brefl _) 1) | exact SeesX.of (Nat.le_refl _) (below_drewN (by assumption) _))
        (first
          | (go_at_call 104; (with_reducible refine (g_dec_o _ (F) (B) s.length hFB hl x q HX.out).mono ?_); rintro e w2 ⟨b2, A2, n2, c2, A'2, n'2, c'2, rfl, h2, hb2⟩; replace hb2 := bnext (below_drewN (brefl _) 1) hb2; have q2 : Below wr.heap.size wr w2 := bnext (brefl wr) hb2; have x1a := x1a.b q2; obtain ⟨cx1aa, cx1ab, cx1ac⟩ := x1a.c3; obtain ⟨fx1aa, fx1ab, fx1ac⟩ := x1a.f3))
      have bw2 := hbw.trans (q2.mono hbw.size)
      clear cx1aa fx1aa cx1ab fx1ab cx1ac fx1ac lx1aa lx1ab lx1ac lx1ad
      have lw2 := q2.size
      obtain ⟨cx1aa, cx1ab, cx1ac⟩ := x1a.c3
      obtain ⟨fx1aa, fx1ab, fx1ac⟩ := x1a.f3
      go_wp2_with fail
      refine bodyPost_ret (v := .tuple #[.agg #[.bool b2, .slice A2 n2 c2, .slice A'2 n'2 c'2], .int .i64 x]) (by simp [results, Tryz.results38, go_sem, *] <;> first | rfl | exact ⟨rfl, rfl⟩) rfl ?_
      exact ⟨_, _, _, _, _, _, _, rfl, (h2).keep ((((Kp.refl w2).sb w.heap.size 0 x1a.box (by decide) (.bool b2)).sb w.heap.size 1 (x1a.box.set ⟨w.heap.size, 0, none⟩ (.bool b2)) (by decide) (.slice A2 n2 c2)).sb w.heap.size 2 ((x1a.box.set ⟨w.heap.size, 0, none⟩ (.bool b2)).set ⟨w.heap.size, 1, none⟩ (.slice A2 n2 c2)) (by decide) (.slice A'2 n'2 c'2)), (((bw2.sc w.heap.size 0 (by omega) (.bool b2)).sc w.heap.size 1 (by omega) (.slice A2 n2 c2)).sc w.heap.size 2 (by omega) (.slice A'2 n'2 c'2))⟩
theorem g_parse_s1 (w : World) (s F B : List UInt8) (hl : s.length ≤ 65536) (hs : s = F ++ 47 :: B) (hF : ∀ c ∈ F, c ≠ 47 ∧ c ≠ 46) (h1 : okZ F = false) :
  Calls Tryz.prog 38 #[strV s] w (RetFe w (.int .i64 2) 0 1) := by
 have H1 := Lib.hid h1
 clear h1
 obtain ⟨x2, z2, hp2⟩ := parseOut B
 have HP2 := Lib.hid hp2
 clear hp2
 have hszs := size_v s
 have hlen : ((65536 : Int) < (s.length : Int)) = False := by simp; omega
 have hFs : F.length < s.length := by rw [hs]; simp
 have hpre : ∀ (i : Nat) (hi : i < F.length) (hi2 : i < s.length), s[i] ≠ 47 ∧ s[i] ≠ 46 := fun i hi hi2 => by
  have e : s[i] = F[i] := by subst hs; exact List.getElem_append_left hi
  rw [e]; exact hF _ (List.getElem_mem _)
 have hat : ∀ h : F.length < s.length, s[F.length] = 47 := fun h => by subst hs; simp
 have e1 : (⟨s.toArray⟩ : ByteArray).extract 0 F.length = ⟨F.toArray⟩ := by rw [ext_v, hs]; simp
 have e2 : (⟨s.toArray⟩ : ByteArray).extract (F.length + 1) s.length = ⟨B.toArray⟩ := by
  rw [ext_v, hs]; simp; exact List.take_of_length_le (by omega)
 have hF6 : F.length ≤ 65536 := by omega
 have hB6 : B.length ≤ 65536 := by rw [hs] at hl; simp at hl; omega
 have HP := Lib.hid hpre
 have HA := Lib.hid hat
 clear hpre hat hF
 clear hs
 go_enter Tryz.func38, Tryz.ntmps38
 go_wp2_with fail
 have p1 := ((Kp.refl w).alloc (.cells #[.bool false, .slice none 0 0, .slice none 0 0] 24))
 have bw1 := ((brefl w).alloc (by first | omega | (simp <;> omega)) (.cells #[.bool false, .slice none 0 0, .slice none 0 0] 24))
 have x1a : Blk (w.alloc (.cells #[.bool false, .slice none 0 0, .slice none 0 0] 24)) w.heap.size 24 #[.bool false, .slice none 0 0, .slice none 0 0] := (blkAt _ _ _ (by simp))
 have lw1 : w.heap.size + 1 ≤ (w.alloc (.cells #[.bool false, .slice none 0 0, .slice none 0 0] 24)).heap.size := by simp
 generalize hE1 : (w.alloc (.cells #[.bool false, .slice none 0 0, .slice none 0 0] 24)) = w1 at p1 bw1 lw1 x1a ⊢
 clear hE1
 go_loopw [17] (fun iv wr => ∃ (i : Nat), iv = .int .i64 (i : Nat) ∧ i ≤ F.length ∧ Kp w1 wr ∧ Below w.heap.size w wr ∧ w1.heap.size ≤ wr.heap.size ∧ Blk wr w.heap.size 24 #[.bool false, .slice none 0 0, .slice none 0 0]) (fun iv _ => s.length - (intOf iv).toNat)
 case atStart => exact ⟨0, rfl, Nat.zero_le _, Kp.refl _, bw1, Nat.le_refl _, x1a⟩
 case round =>
  clear x1a
  obtain ⟨i, rfl, hi, hkp, hbw, hlw, x1a⟩ := hrel
  by_cases hlt : i < F.length
  ·obtain ⟨d, hd⟩ : ∃ d, s[i]'(by omega) = d := ⟨_, rfl⟩
   have hget : ∀ h, (⟨s.toArray⟩ : ByteArray)[i]'h = d := fun h => hd
   have hne := HP.out i hlt (by omega)
   rw [hd] at hne
   obtain ⟨dn, hdn⟩ : ∃ dn, d.toNat = dn := ⟨_, rfl⟩
   have h47 : ((dn : Int) == 47) = false := by simp; intro e; exact hne.1 (UInt8.toNat.inj (by rw [hdn]; show dn = 47; omega))
   have h46 : ((dn : Int) == 46) = false := by simp; intro e; exact hne.2 (UInt8.toNat.inj (by rw [hdn]; show dn = 46; omega))
   have hlts : i < s.length := by omega
   clear hd hne
   go_wp2_with fail
   go_roundw
   case rel => exact ⟨i + 1, by go_num, by omega, hkp, hbw, by omega, x1a⟩
   case measure => simp [intOf]; omega
  ·have hiF : i = F.length := by omega
   subst hiF
   have hget : ∀ h, (⟨s.toArray⟩ : ByteArray)[F.length]'h = 47 := fun h => HA.out h
   have hw1 : IntKind.i64.wrap ((F.length : Int) + 1) = (F.length : Int) + 1 := IntWalk.i64_in _ ⟨by omega, by omega⟩
   have hi0 : (0 : Int) ≤ (F.length : Int) := by omega
   have hiL : (F.length : Int) ≤ (s.length : Int) := by omega
   have hiL2 : (F.length : Int) + 1 ≤ (s.length : Int) := by omega
   have hi1 : (0 : Int) ≤ (F.length : Int) + 1 := by omega
   have et : ((F.length : Int) + 1).toNat = F.length + 1 := by omega
   clear hi hlt
   go_wp2_with fail
   (with_reducible refine (r_parse_bad _ (F) (by omega) H1.out).mono ?_); rintro e w2 ⟨b2, A2, n2, c2, rfl, h2, q2⟩
   replace x1a := x1a.b q2
   have bw2 := hbw.trans (q2.mono hbw.size)
   have lw2 := q2.size
   clear q2
   go_wp2_with fail
   (with_reducible refine (r01_parse_o _ (B) x2 z2 HP2.out).mono ?_); rintro e w3 ⟨b3, A3, n3, c3, rfl, h3, hb3⟩
   have q3 := ((Below.refl _ _).alloc (Nat.le_refl _) _).trans (hb3.mono (by simp))
   replace h2 := h2.belw q3
   replace x1a := x1a.b q3
   have x3a : Blk w3 w2.heap.size 46 #[.bool b2, .slice A2 n2 c2] := (blkAt _ _ _ (by simp)).below hb3 (by simp)
   have bw3 := bw2.trans (q3.mono bw2.size)
   have lw3 : w2.heap.size + 1 ≤ w3.heap.size := by have := hb3.size; simp at this; omega
   clear q3 bw2
   obtain ⟨cx1aa, cx1ab, cx1ac⟩ := x1a.c3
   obtain ⟨fx1aa, fx1ab, fx1ac⟩ := x1a.f3
   obtain ⟨lx1aa, lx1ab, lx1ac, lx1ad⟩ := lts0 x1a.lt
   go_wp2_with fail
   refine bodyPost_ret (v := .tuple #[.agg #[.bool false, .slice none 0 0, .slice none 0 0], .int .i64 2]) (by simp [results, Tryz.results38, go_sem, *] <;> first | rfl | exact ⟨rfl, rfl⟩) rfl ?_
   exact ⟨_, _, _, _, _, _, _, rfl, QV.zero _ _, ((((bw3.sc w.heap.size 0 (by omega) (.bool false)).sc w.heap.size 1 (by omega) (.slice none 0 0)).sc w.heap.size 2 (by omega) (.slice none 0 0)).alloc (by first | omega | (simp <;> omega)) (.cells #[.bool b3, .slice A3 n3 c3] 46))⟩
theorem g_parse_s2 (w : World) (s F B : List UInt8) (hl : s.length ≤ 65536) (hs : s = F ++ 47 :: B) (hF : ∀ c ∈ F, c ≠ 47 ∧ c ≠ 46) (h1 : okZ F = true) (h2 : okZ B = false) :
  Calls Tryz.prog 38 #[strV s] w (RetFe w (.int .i64 2) 0 1) := by
 have H1 := Lib.hid h1
 clear h1
 have H2 := Lib.hid h2
 clear h2
 have hszs := size_v s
 have hlen : ((65536 : Int) < (s.length : Int)) = False := by simp; omega
 have hFs : F.length < s.length := by rw [hs]; simp
 have hpre : ∀ (i : Nat) (hi : i < F.length) (hi2 : i < s.length), s[i] ≠ 47 ∧ s[i] ≠ 46 := fun i hi hi2 => by
  have e : s[i] = F[i] := by subst hs; exact List.getElem_append_left hi
  rw [e]; exact hF _ (List.getElem_mem _)
 have hat : ∀ h : F.length < s.length, s[F.length] = 47 := fun h => by subst hs; simp
 have e1 : (⟨s.toArray⟩ : ByteArray).extract 0 F.length = ⟨F.toArray⟩ := by rw [ext_v, hs]; simp
 have e2 : (⟨s.toArray⟩ : ByteArray).extract (F.length + 1) s.length = ⟨B.toArray⟩ := by
  rw [ext_v, hs]; simp; exact List.take_of_length_le (by omega)
 have hF6 : F.length ≤ 65536 := by omega
 have hB6 : B.length ≤ 65536 := by rw [hs] at hl; simp at hl; omega
 have HP := Lib.hid hpre
 have HA := Lib.hid hat
 clear hpre hat hF
 clear hs
 go_enter Tryz.func38, Tryz.ntmps38
 go_wp2_with fail
 have p1 := ((Kp.refl w).alloc (.cells #[.bool false, .slice none 0 0, .slice none 0 0] 24))
 have bw1 := ((brefl w).alloc (by first | omega | (simp <;> omega)) (.cells #[.bool false, .slice none 0 0, .slice none 0 0] 24))
 have x1a : Blk (w.alloc (.cells #[.bool false, .slice none 0 0, .slice none 0 0] 24)) w.heap.size 24 #[.bool false, .slice none 0 0, .slice none 0 0] := (blkAt _ _ _ (by simp))
 have lw1 : w.heap.size + 1 ≤ (w.alloc (.cells #[.bool false, .slice none 0 0, .slice none 0 0] 24)).heap.size := by simp
 generalize hE1 : (w.alloc (.cells #[.bool false, .slice none 0 0, .slice none 0 0] 24)) = w1 at p1 bw1 lw1 x1a ⊢
 clear hE1
 go_loopw [17] (fun iv wr => ∃ (i : Nat), iv = .int .i64 (i : Nat) ∧ i ≤ F.length ∧ Kp w1 wr ∧ Below w.heap.size w wr ∧ w1.heap.size ≤ wr.heap.size ∧ Blk wr w.heap.size 24 #[.bool false, .slice none 0 0, .slice none 0 0]) (fun iv _ => s.length - (intOf iv).toNat)
 case atStart => exact ⟨0, rfl, Nat.zero_le _, Kp.refl _, bw1, Nat.le_refl _, x1a⟩
 case round =>
  clear x1a
  obtain ⟨i, rfl, hi, hkp, hbw, hlw, x1a⟩ := hrel
  by_cases hlt : i < F.length
  ·obtain ⟨d, hd⟩ : ∃ d, s[i]'(by omega) = d := ⟨_, rfl⟩
   have hget : ∀ h, (⟨s.toArray⟩ : ByteArray)[i]'h = d := fun h => hd
   have hne := HP.out i hlt (by omega)
   rw [hd] at hne
   obtain ⟨dn, hdn⟩ : ∃ dn, d.toNat = dn := ⟨_, rfl⟩
   have h47 : ((dn : Int) == 47) = false := by simp; intro e; exact hne.1 (UInt8.toNat.inj (by rw [hdn]; show dn = 47; omega))
   have h46 : ((dn : Int) == 46) = false := by simp; intro e; exact hne.2 (UInt8.toNat.inj (by rw [hdn]; show dn = 46; omega))
   have hlts : i < s.length := by omega
   clear hd hne
   go_wp2_with fail
   go_roundw
   case rel => exact ⟨i + 1, by go_num, by omega, hkp, hbw, by omega, x1a⟩
   case measure => simp [intOf]; omega
  ·have hiF : i = F.length := by omega
   subst hiF
   have hget : ∀ h, (⟨s.toArray⟩ : ByteArray)[F.length]'h = 47 := fun h => HA.out h
   have hw1 : IntKind.i64.wrap ((F.length : Int) + 1) = (F.length : Int) + 1 := IntWalk.i64_in _ ⟨by omega, by omega⟩
   have hi0 : (0 : Int) ≤ (F.length : Int) := by omega
   have hiL : (F.length : Int) ≤ (s.length : Int) := by omega
   have hiL2 : (F.length : Int) + 1 ≤ (s.length : Int) := by omega
   have hi1 : (0 : Int) ≤ (F.length : Int) + 1 := by omega
   have et : ((F.length : Int) + 1).toNat = F.length + 1 := by omega
   clear hi hlt
   go_wp2_with fail
   (with_reducible refine (r_parse_ok6 _ (F) (by omega) H1.out).mono ?_); rintro e w2 ⟨b2, A2, n2, c2, rfl, h2, q2⟩
   replace x1a := x1a.b q2
   have bw2 := hbw.trans (q2.mono hbw.size)
   have lw2 := q2.size
   clear q2
   go_wp2_with fail
   (with_reducible refine (r_parse_bad _ (B) (by omega) H2.out).mono ?_); rintro e w3 ⟨b3, A3, n3, c3, rfl, h3, hb3⟩
   have q3 := ((Below.refl _ _).alloc (Nat.le_refl _) _).trans (hb3.mono (by simp))
   replace h2 := h2.belw q3
   replace x1a := x1a.b q3
   have x3a : Blk w3 w2.heap.size 46 #[.bool b2, .slice A2 n2 c2] := (blkAt _ _ _ (by simp)).below hb3 (by simp)
   have bw3 := bw2.trans (q3.mono bw2.size)
   have lw3 : w2.heap.size + 1 ≤ w3.heap.size := by have := hb3.size; simp at this; omega
   clear q3 bw2
   obtain ⟨cx1aa, cx1ab, cx1ac⟩ := x1a.c3
   obtain ⟨fx1aa, fx1ab, fx1ac⟩ := x1a.f3
   obtain ⟨lx1aa, lx1ab, lx1ac, lx1ad⟩ := lts0 x1a.lt
   go_wp2_with fail
   refine bodyPost_ret (v := .tuple #[.agg #[.bool false, .slice none 0 0, .slice none 0 0], .int .i64 2]) (by simp [results, Tryz.results38, go_sem, *] <;> first | rfl | exact ⟨rfl, rfl⟩) rfl ?_
   exact ⟨_, _, _, _, _, _, _, rfl, QV.zero _ _, ((((bw3.sc w.heap.size 0 (by omega) (.bool false)).sc w.heap.size 1 (by omega) (.slice none 0 0)).sc w.heap.size 2 (by omega) (.slice none 0 0)).alloc (by first | omega | (simp <;> omega)) (.cells #[.bool b3, .slice A3 n3 c3] 46))⟩
theorem g_parse_s3 (w : World) (s F B : List UInt8) (hl : s.length ≤ 65536) (hs : s = F ++ 47 :: B) (hF : ∀ c ∈ F, c ≠ 47 ∧ c ≠ 46) (h1 : okZ F = true) (h2 : okZ B = true) (h3 : (valZ B).sign ≤ 0) :
  Calls Tryz.prog 38 #[strV s] w (RetFe w (.int .i64 2) 0 1) := by
 have H1 := Lib.hid h1
 clear h1
 have H2 := Lib.hid h2
 clear h2
 obtain ⟨t, ht⟩ : ∃ t, (valZ B).sign = t := ⟨_, rfl⟩
 have et : (t ≤ 0) = True := by simp; rw [← ht]; exact h3
 have HT := Lib.hid ht
 clear h3 ht
 have hszs := size_v s
 have hlen : ((65536 : Int) < (s.length : Int)) = False := by simp; omega
 have hFs : F.length < s.length := by rw [hs]; simp
 have hpre : ∀ (i : Nat) (hi : i < F.length) (hi2 : i < s.length), s[i] ≠ 47 ∧ s[i] ≠ 46 := fun i hi hi2 => by
  have e : s[i] = F[i] := by subst hs; exact List.getElem_append_left hi
  rw [e]; exact hF _ (List.getElem_mem _)
 have hat : ∀ h : F.length < s.length, s[F.length] = 47 := fun h => by subst hs; simp
 have e1 : (⟨s.toArray⟩ : ByteArray).extract 0 F.length = ⟨F.toArray⟩ := by rw [ext_v, hs]; simp
 have e2 : (⟨s.toArray⟩ : ByteArray).extract (F.length + 1) s.length = ⟨B.toArray⟩ := by
  rw [ext_v, hs]; simp; exact List.take_of_length_le (by omega)
 have hF6 : F.length ≤ 65536 := by omega
 have hB6 : B.length ≤ 65536 := by rw [hs] at hl; simp at hl; omega
 have HP := Lib.hid hpre
 have HA := Lib.hid hat
 clear hpre hat hF
 clear hs
 go_enter Tryz.func38, Tryz.ntmps38
 go_wp2_with fail
 have p1 := ((Kp.refl w).alloc (.cells #[.bool false, .slice none 0 0, .slice none 0 0] 24))
 have bw1 := ((brefl w).alloc (by first | omega | (simp <;> omega)) (.cells #[.bool false, .slice none 0 0, .slice none 0 0] 24))
 have x1a : Blk (w.alloc (.cells #[.bool false, .slice none 0 0, .slice none 0 0] 24)) w.heap.size 24 #[.bool false, .slice none 0 0, .slice none 0 0] := (blkAt _ _ _ (by simp))
 have lw1 : w.heap.size + 1 ≤ (w.alloc (.cells #[.bool false, .slice none 0 0, .slice none 0 0] 24)).heap.size := by simp
 generalize hE1 : (w.alloc (.cells #[.bool false, .slice none 0 0, .slice none 0 0] 24)) = w1 at p1 bw1 lw1 x1a ⊢
 clear hE1
 go_loopw [17] (fun iv wr => ∃ (i : Nat), iv = .int .i64 (i : Nat) ∧ i ≤ F.length ∧ Kp w1 wr ∧ Below w.heap.size w wr ∧ w1.heap.size ≤ wr.heap.size ∧ Blk wr w.heap.size 24 #[.bool false, .slice none 0 0, .slice none 0 0]) (fun iv _ => s.length - (intOf iv).toNat)
 case atStart => exact ⟨0, rfl, Nat.zero_le _, Kp.refl _, bw1, Nat.le_refl _, x1a⟩
 case round =>
  clear x1a
  obtain ⟨i, rfl, hi, hkp, hbw, hlw, x1a⟩ := hrel
  by_cases hlt : i < F.length
  ·obtain ⟨d, hd⟩ : ∃ d, s[i]'(by omega) = d := ⟨_, rfl⟩
   have hget : ∀ h, (⟨s.toArray⟩ : ByteArray)[i]'h = d := fun h => hd
   have hne := HP.out i hlt (by omega)
   rw [hd] at hne
   obtain ⟨dn, hdn⟩ : ∃ dn, d.toNat = dn := ⟨_, rfl⟩
   have h47 : ((dn : Int) == 47) = false := by simp; intro e; exact hne.1 (UInt8.toNat.inj (by rw [hdn]; show dn = 47; omega))
   have h46 : ((dn : Int) == 46) = false := by simp; intro e; exact hne.2 (UInt8.toNat.inj (by rw [hdn]; show dn = 46; omega))
   have hlts : i < s.length := by omega
   clear hd hne
   go_wp2_with fail
   go_roundw
   case rel => exact ⟨i + 1, by go_num, by omega, hkp, hbw, by omega, x1a⟩
   case measure => simp [intOf]; omega
  ·have hiF : i = F.length := by omega
   subst hiF
   have hget : ∀ h, (⟨s.toArray⟩ : ByteArray)[F.length]'h = 47 := fun h => HA.out h
   have hw1 : IntKind.i64.wrap ((F.length : Int) + 1) = (F.length : Int) + 1 := IntWalk.i64_in _ ⟨by omega, by omega⟩
   have hi0 : (0 : Int) ≤ (F.length : Int) := by omega
   have hiL : (F.length : Int) ≤ (s.length : Int) := by omega
   have hiL2 : (F.length : Int) + 1 ≤ (s.length : Int) := by omega
   have hi1 : (0 : Int) ≤ (F.length : Int) + 1 := by omega
   have et : ((F.length : Int) + 1).toNat = F.length + 1 := by omega
   clear hi hlt
   go_wp2_with fail
   (with_reducible refine (r_parse_ok6 _ (F) (by omega) H1.out).mono ?_); rintro e w2 ⟨b2, A2, n2, c2, rfl, h2, q2⟩
   replace x1a := x1a.b q2
   have bw2 := hbw.trans (q2.mono hbw.size)
   have lw2 := q2.size
   clear q2
   go_wp2_with fail
   (with_reducible refine (r_parse_ok6 _ (B) (by omega) H2.out).mono ?_); rintro e w3 ⟨b3, A3, n3, c3, rfl, h3, hb3⟩
   have q3 := ((Below.refl _ _).alloc (Nat.le_refl _) _).trans (hb3.mono (by simp))
   replace h2 := h2.belw q3
   replace x1a := x1a.b q3
   have x3a : Blk w3 w2.heap.size 46 #[.bool b2, .slice A2 n2 c2] := (blkAt _ _ _ (by simp)).below hb3 (by simp)
   have bw3 := bw2.trans (q3.mono bw2.size)
   have lw3 : w2.heap.size + 1 ≤ w3.heap.size := by have := hb3.size; simp at this; omega
   clear q3 bw2
   go_wp2_with fail
   (with_reducible refine (r01_sign_e _ b3 A3 n3 c3 (valZ B) (65536) ?_ (t) ?_ ?_).mono ?_); (exact (h3.belw ((Below.refl _ _).alloc (Nat.le_refl _) _)).iz); (exact HT.out); (omega); rintro e w4 ⟨rfl, hb4⟩
   have q4 := ((Below.refl _ _).alloc (Nat.le_refl _) _).trans (hb4.mono (by simp))
   replace h2 := h2.belw q4
   replace h3 := h3.belw q4
   replace x1a := x1a.b q4
   replace x3a := x3a.b q4
   have x4a : Blk w4 w3.heap.size 46 #[.bool b3, .slice A3 n3 c3] := (blkAt _ _ _ (by simp)).below hb4 (by simp)
   have bw4 := bw3.trans (q4.mono bw3.size)
   have lw4 : w3.heap.size + 1 ≤ w4.heap.size := by have := hb4.size; simp at this; omega
   clear q4 bw3
   obtain ⟨cx1aa, cx1ab, cx1ac⟩ := x1a.c3
   obtain ⟨fx1aa, fx1ab, fx1ac⟩ := x1a.f3
   obtain ⟨lx1aa, lx1ab, lx1ac, lx1ad⟩ := lts0 x1a.lt
   go_wp2_with fail
   refine bodyPost_ret (v := .tuple #[.agg #[.bool false, .slice none 0 0, .slice none 0 0], .int .i64 2]) (by simp [results, Tryz.results38, go_sem, *] <;> first | rfl | exact ⟨rfl, rfl⟩) rfl ?_
   exact ⟨_, _, _, _, _, _, _, rfl, QV.zero _ _, (((bw4.sc w.heap.size 0 (by omega) (.bool false)).sc w.heap.size 1 (by omega) (.slice none 0 0)).sc w.heap.size 2 (by omega) (.slice none 0 0))⟩
theorem g_parse_s4 (w : World) (s F B : List UInt8) (hl : s.length ≤ 65536) (hs : s = F ++ 47 :: B) (hF : ∀ c ∈ F, c ≠ 47 ∧ c ≠ 46) (h1 : okZ F = true) (h2 : okZ B = true) (h3 : (valZ B).sign = 1) (h4 : ratText (Rat.divInt (valZ F) (valZ B)) ≠ s) :
  Calls Tryz.prog 38 #[strV s] w (RetFe w (.int .i64 2) 0 1) := by
 have HNE := Lib.hid (show valZ B ≠ 0 by intro e; rw [e] at h3; cases h3)
 have HS := Lib.hid (Sz_divInt (valZ_lt2 h1 (show F.length ≤ 65536 by rw [hs] at hl; simp at hl; omega)) (valZ_lt2 h2 (show B.length ≤ 65536 by rw [hs] at hl; simp at hl; omega)) (by decide))
 have H1 := Lib.hid h1
 clear h1
 have H2 := Lib.hid h2
 clear h2
 have H3 := Lib.hid h3
 clear h3
 obtain ⟨X, hX⟩ : ∃ X, ratText (Rat.divInt (valZ F) (valZ B)) = X := ⟨_, rfl⟩
 rw [hX] at h4
 have HX := Lib.hid hX
 have htls := toList_v s
 have htlX := toList_v X
 have hXs : (X == s) = false := by simp; exact h4
 clear hX
 have hszs := size_v s
 have hlen : ((65536 : Int) < (s.length : Int)) = False := by simp; omega
 have hFs : F.length < s.length := by rw [hs]; simp
 have hpre : ∀ (i : Nat) (hi : i < F.length) (hi2 : i < s.length), s[i] ≠ 47 ∧ s[i] ≠ 46 := fun i hi hi2 => by
  have e : s[i] = F[i] := by subst hs; exact List.getElem_append_left hi
  rw [e]; exact hF _ (List.getElem_mem _)
 have hat : ∀ h : F.length < s.length, s[F.length] = 47 := fun h => by subst hs; simp
 have e1 : (⟨s.toArray⟩ : ByteArray).extract 0 F.length = ⟨F.toArray⟩ := by rw [ext_v, hs]; simp
 have e2 : (⟨s.toArray⟩ : ByteArray).extract (F.length + 1) s.length = ⟨B.toArray⟩ := by
  rw [ext_v, hs]; simp; exact List.take_of_length_le (by omega)
 have hF6 : F.length ≤ 65536 := by omega
 have hB6 : B.length ≤ 65536 := by rw [hs] at hl; simp at hl; omega
 have HP := Lib.hid hpre
 have HA := Lib.hid hat
 clear hpre hat hF
 clear hs
 go_enter Tryz.func38, Tryz.ntmps38
 go_wp2_with fail
 have p1 := ((Kp.refl w).alloc (.cells #[.bool false, .slice none 0 0, .slice none 0 0] 24))
 have bw1 := ((brefl w).alloc (by first | omega | (simp <;> omega)) (.cells #[.bool false, .slice none 0 0, .slice none 0 0] 24))
 have x1a : Blk (w.alloc (.cells #[.bool false, .slice none 0 0, .slice none 0 0] 24)) w.heap.size 24 #[.bool false, .slice none 0 0, .slice none 0 0] := (blkAt _ _ _ (by simp))
 have lw1 : w.heap.size + 1 ≤ (w.alloc (.cells #[.bool false, .slice none 0 0, .slice none 0 0] 24)).heap.size := by simp
 generalize hE1 : (w.alloc (.cells #[.bool false, .slice none 0 0, .slice none 0 0] 24)) = w1 at p1 bw1 lw1 x1a ⊢
 clear hE1
 go_loopw [17] (fun iv wr => ∃ (i : Nat), iv = .int .i64 (i : Nat) ∧ i ≤ F.length ∧ Kp w1 wr ∧ Below w.heap.size w wr ∧ w1.heap.size ≤ wr.heap.size ∧ Blk wr w.heap.size 24 #[.bool false, .slice none 0 0, .slice none 0 0]) (fun iv _ => s.length - (intOf iv).toNat)
 case atStart => exact ⟨0, rfl, Nat.zero_le _, Kp.refl _, bw1, Nat.le_refl _, x1a⟩
 case round =>
  clear x1a
  obtain ⟨i, rfl, hi, hkp, hbw, hlw, x1a⟩ := hrel
  by_cases hlt : i < F.length
  ·obtain ⟨d, hd⟩ : ∃ d, s[i]'(by omega) = d := ⟨_, rfl⟩
   have hget : ∀ h, (⟨s.toArray⟩ : ByteArray)[i]'h = d := fun h => hd
   have hne := HP.out i hlt (by omega)
   rw [hd] at hne
   obtain ⟨dn, hdn⟩ : ∃ dn, d.toNat = dn := ⟨_, rfl⟩
   have h47 : ((dn : Int) == 47) = false := by simp; intro e; exact hne.1 (UInt8.toNat.inj (by rw [hdn]; show dn = 47; omega))
   have h46 : ((dn : Int) == 46) = false := by simp; intro e; exact hne.2 (UInt8.toNat.inj (by rw [hdn]; show dn = 46; omega))
   have hlts : i < s.length := by omega
   clear hd hne
   go_wp2_with fail
   go_roundw
   case rel => exact ⟨i + 1, by go_num, by omega, hkp, hbw, by omega, x1a⟩
   case measure => simp [intOf]; omega
  ·have hiF : i = F.length := by omega
   subst hiF
   have hget : ∀ h, (⟨s.toArray⟩ : ByteArray)[F.length]'h = 47 := fun h => HA.out h
   have hw1 : IntKind.i64.wrap ((F.length : Int) + 1) = (F.length : Int) + 1 := IntWalk.i64_in _ ⟨by omega, by omega⟩
   have hi0 : (0 : Int) ≤ (F.length : Int) := by omega
   have hiL : (F.length : Int) ≤ (s.length : Int) := by omega
   have hiL2 : (F.length : Int) + 1 ≤ (s.length : Int) := by omega
   have hi1 : (0 : Int) ≤ (F.length : Int) + 1 := by omega
   have et : ((F.length : Int) + 1).toNat = F.length + 1 := by omega
   clear hi hlt
   go_wp2_with fail
   (with_reducible refine (r_parse_ok6 _ (F) (by omega) H1.out).mono ?_); rintro e w2 ⟨b2, A2, n2, c2, rfl, h2, q2⟩
   replace x1a := x1a.b q2
   have bw2 := hbw.trans (q2.mono hbw.size)
   have lw2 := q2.size
   clear q2
   go_wp2_with fail
   (with_reducible refine (r_parse_ok6 _ (B) (by omega) H2.out).mono ?_); rintro e w3 ⟨b3, A3, n3, c3, rfl, h3, hb3⟩
   have q3 := ((Below.refl _ _).alloc (Nat.le_refl _) _).trans (hb3.mono (by simp))
   replace h2 := h2.belw q3
   replace x1a := x1a.b q3
   have x3a : Blk w3 w2.heap.size 46 #[.bool b2, .slice A2 n2 c2] := (blkAt _ _ _ (by simp)).below hb3 (by simp)
   have bw3 := bw2.trans (q3.mono bw2.size)
   have lw3 : w2.heap.size + 1 ≤ w3.heap.size := by have := hb3.size; simp at this; omega
   clear q3 bw2
   go_wp2_with fail
   (with_reducible refine (r01_sign_e _ b3 A3 n3 c3 (valZ B) (65536) ?_ (1) ?_ ?_).mono ?_); (exact (h3.belw ((Below.refl _ _).alloc (Nat.le_refl _) _)).iz); (exact H3.out); (omega); rintro e w4 ⟨rfl, hb4⟩
   have q4 := ((Below.refl _ _).alloc (Nat.le_refl _) _).trans (hb4.mono (by simp))
   replace h2 := h2.belw q4
   replace h3 := h3.belw q4
   replace x1a := x1a.b q4
   replace x3a := x3a.b q4
   have x4a : Blk w4 w3.heap.size 46 #[.bool b3, .slice A3 n3 c3] := (blkAt _ _ _ (by simp)).below hb4 (by simp)
   have bw4 := bw3.trans (q4.mono bw3.size)
   have lw4 : w3.heap.size + 1 ≤ w4.heap.size := by have := hb4.size; simp at this; omega
   clear q4 bw3
   obtain ⟨cx3aa, cx3ab⟩ := x3a.c2
   obtain ⟨lx3aa, lx3ab, lx3ac, lx3ad⟩ := lts0 x3a.lt
   obtain ⟨cx4aa, cx4ab⟩ := x4a.c2
   obtain ⟨lx4aa, lx4ab, lx4ac, lx4ad⟩ := lts0 x4a.lt
   go_wp2_with fail
   (with_reducible refine (g_form _ b2 A2 n2 c2 (valZ F) (65536) ?_ b3 A3 n3 c3 (valZ B) (65536) ?_ (Rat.divInt (valZ F) (valZ B)) 65536 ?_ ?_ ?_ ?_).mono ?_); (exact h2.iz); (exact h3.iz); (exact HNE.out); (rfl); (exact HS.out); (omega); rintro e w5 ⟨b5, A5, n5, c5, A'5, n'5, c'5, rfl, h5, q5⟩
   clear cx3aa cx3ab lx3aa lx3ab lx3ac lx3ad cx4aa cx4ab lx4aa lx4ab lx4ac lx4ad
   replace h2 := h2.belw q5
   replace h3 := h3.belw q5
   replace x1a := x1a.b q5
   replace x3a := x3a.b q5
   replace x4a := x4a.b q5
   have bw5 := bw4.trans (q5.mono bw4.size)
   have lw5 := q5.size
   clear q5 bw4
   go_wp2_with fail
   (with_reducible refine (g_text_v _ b5 A5 n5 c5 A'5 n'5 c'5 (Rat.divInt (valZ F) (valZ B)) (65536) ?_ X HX.out ?_ ?_).mono ?_); (exact h5.qz); (omega); (omega); rintro e w6 ⟨rfl, q6⟩
   replace h2 := h2.belw q6
   replace h3 := h3.belw q6
   replace h5 := h5.belw q6
   replace x1a := x1a.b q6
   replace x3a := x3a.b q6
   replace x4a := x4a.b q6
   have bw6 := bw5.trans (q6.mono bw5.size)
   have lw6 := q6.size
   clear q6 bw5
   obtain ⟨cx1aa, cx1ab, cx1ac⟩ := x1a.c3
   obtain ⟨fx1aa, fx1ab, fx1ac⟩ := x1a.f3
   obtain ⟨lx1aa, lx1ab, lx1ac, lx1ad⟩ := lts0 x1a.lt
   go_wp2_with fail
   refine bodyPost_ret (v := .tuple #[.agg #[.bool false, .slice none 0 0, .slice none 0 0], .int .i64 2]) (by simp [results, Tryz.results38, go_sem, *] <;> first | rfl | exact ⟨rfl, rfl⟩) rfl ?_
   exact ⟨_, _, _, _, _, _, _, rfl, QV.zero _ _, (((bw6.sc w.heap.size 0 (by omega) (.bool false)).sc w.heap.size 1 (by omega) (.slice none 0 0)).sc w.heap.size 2 (by omega) (.slice none 0 0))⟩
theorem g_parse_s5 (w : World) (s F B : List UInt8) (hl : s.length ≤ 65536) (hs : s = F ++ 47 :: B) (hF : ∀ c ∈ F, c ≠ 47 ∧ c ≠ 46) (h1 : okZ F = true) (h2 : okZ B = true) (h3 : (valZ B).sign = 1) (h4 : ratText (Rat.divInt (valZ F) (valZ B)) = s) :
  Calls Tryz.prog 38 #[strV s] w (RetFe w (.int .i64 0) (Rat.divInt (valZ F) (valZ B)) 65536) := by
 have HNE := Lib.hid (show valZ B ≠ 0 by intro e; rw [e] at h3; cases h3)
 have HS := Lib.hid (Sz_divInt (valZ_lt2 h1 (show F.length ≤ 65536 by rw [hs] at hl; simp at hl; omega)) (valZ_lt2 h2 (show B.length ≤ 65536 by rw [hs] at hl; simp at hl; omega)) (by decide))
 have H1 := Lib.hid h1
 clear h1
 have H2 := Lib.hid h2
 clear h2
 have H3 := Lib.hid h3
 clear h3
 have H4 := Lib.hid h4
 clear h4
 have htls := toList_v s
 have hszs := size_v s
 have hlen : ((65536 : Int) < (s.length : Int)) = False := by simp; omega
 have hFs : F.length < s.length := by rw [hs]; simp
 have hpre : ∀ (i : Nat) (hi : i < F.length) (hi2 : i < s.length), s[i] ≠ 47 ∧ s[i] ≠ 46 := fun i hi hi2 => by
  have e : s[i] = F[i] := by subst hs; exact List.getElem_append_left hi
  rw [e]; exact hF _ (List.getElem_mem _)
 have hat : ∀ h : F.length < s.length, s[F.length] = 47 := fun h => by subst hs; simp
 have e1 : (⟨s.toArray⟩ : ByteArray).extract 0 F.length = ⟨F.toArray⟩ := by rw [ext_v, hs]; simp
 have e2 : (⟨s.toArray⟩ : ByteArray).extract (F.length + 1) s.length = ⟨B.toArray⟩ := by
  rw [ext_v, hs]; simp; exact List.take_of_length_le (by omega)
 have hF6 : F.length ≤ 65536 := by omega
 have hB6 : B.length ≤ 65536 := by rw [hs] at hl; simp at hl; omega
 have HP := Lib.hid hpre
 have HA := Lib.hid hat
 clear hpre hat hF
 clear hs
 go_enter Tryz.func38, Tryz.ntmps38
 go_wp2_with fail
 have p1 := ((Kp.refl w).alloc (.cells #[.bool false, .slice none 0 0, .slice none 0 0] 24))
 have bw1 := ((brefl w).alloc (by first | omega | (simp <;> omega)) (.cells #[.bool false, .slice none 0 0, .slice none 0 0] 24))
 have x1a : Blk (w.alloc (.cells #[.bool false, .slice none 0 0, .slice none 0 0] 24)) w.heap.size 24 #[.bool false, .slice none 0 0, .slice none 0 0] := (blkAt _ _ _ (by simp))
 have lw1 : w.heap.size + 1 ≤ (w.alloc (.cells #[.bool false, .slice none 0 0, .slice none 0 0] 24)).heap.size := by simp
 generalize hE1 : (w.alloc (.cells #[.bool false, .slice none 0 0, .slice none 0 0] 24)) = w1 at p1 bw1 lw1 x1a ⊢
 clear hE1
 go_loopw [17] (fun iv wr => ∃ (i : Nat), iv = .int .i64 (i : Nat) ∧ i ≤ F.length ∧ Kp w1 wr ∧ Below w.heap.size w wr ∧ w1.heap.size ≤ wr.heap.size ∧ Blk wr w.heap.size 24 #[.bool false, .slice none 0 0, .slice none 0 0]) (fun iv _ => s.length - (intOf iv).toNat)
 case atStart => exact ⟨0, rfl, Nat.zero_le _, Kp.refl _, bw1, Nat.le_refl _, x1a⟩
 case round =>
  clear x1a
  obtain ⟨i, rfl, hi, hkp, hbw, hlw, x1a⟩ := hrel
  by_cases hlt : i < F.length
  ·obtain ⟨d, hd⟩ : ∃ d, s[i]'(by omega) = d := ⟨_, rfl⟩
   have hget : ∀ h, (⟨s.toArray⟩ : ByteArray)[i]'h = d := fun h => hd
   have hne := HP.out i hlt (by omega)
   rw [hd] at hne
   obtain ⟨dn, hdn⟩ : ∃ dn, d.toNat = dn := ⟨_, rfl⟩
   have h47 : ((dn : Int) == 47) = false := by simp; intro e; exact hne.1 (UInt8.toNat.inj (by rw [hdn]; show dn = 47; omega))
   have h46 : ((dn : Int) == 46) = false := by simp; intro e; exact hne.2 (UInt8.toNat.inj (by rw [hdn]; show dn = 46; omega))
   have hlts : i < s.length := by omega
   clear hd hne
   go_wp2_with fail
   go_roundw
   case rel => exact ⟨i + 1, by go_num, by omega, hkp, hbw, by omega, x1a⟩
   case measure => simp [intOf]; omega
  ·have hiF : i = F.length := by omega
   subst hiF
   have hget : ∀ h, (⟨s.toArray⟩ : ByteArray)[F.length]'h = 47 := fun h => HA.out h
   have hw1 : IntKind.i64.wrap ((F.length : Int) + 1) = (F.length : Int) + 1 := IntWalk.i64_in _ ⟨by omega, by omega⟩
   have hi0 : (0 : Int) ≤ (F.length : Int) := by omega
   have hiL : (F.length : Int) ≤ (s.length : Int) := by omega
   have hiL2 : (F.length : Int) + 1 ≤ (s.length : Int) := by omega
   have hi1 : (0 : Int) ≤ (F.length : Int) + 1 := by omega
   have et : ((F.length : Int) + 1).toNat = F.length + 1 := by omega
   clear hi hlt
   go_wp2_with fail
   (with_reducible refine (r_parse_ok6 _ (F) (by omega) H1.out).mono ?_); rintro e w2 ⟨b2, A2, n2, c2, rfl, h2, q2⟩
   replace x1a := x1a.b q2
   have bw2 := hbw.trans (q2.mono hbw.size)
   have lw2 := q2.size
   clear q2
   go_wp2_with fail
   (with_reducible refine (r_parse_ok6 _ (B) (by omega) H2.out).mono ?_); rintro e w3 ⟨b3, A3, n3, c3, rfl, h3, hb3⟩
   have q3 := ((Below.refl _ _).alloc (Nat.le_refl _) _).trans (hb3.mono (by simp))
   replace h2 := h2.belw q3
   replace x1a := x1a.b q3
   have x3a : Blk w3 w2.heap.size 46 #[.bool b2, .slice A2 n2 c2] := (blkAt _ _ _ (by simp)).below hb3 (by simp)
   have bw3 := bw2.trans (q3.mono bw2.size)
   have lw3 : w2.heap.size + 1 ≤ w3.heap.size := by have := hb3.size; simp at this; omega
   clear q3 bw2
   go_wp2_with fail
   (with_reducible refine (r01_sign_e _ b3 A3 n3 c3 (valZ B) (65536) ?_ (1) ?_ ?_).mono ?_); (exact (h3.belw ((Below.refl _ _).alloc (Nat.le_refl _) _)).iz); (exact H3.out); (omega); rintro e w4 ⟨rfl, hb4⟩
   have q4 := ((Below.refl _ _).alloc (Nat.le_refl _) _).trans (hb4.mono (by simp))
   replace h2 := h2.belw q4
   replace h3 := h3.belw q4
   replace x1a := x1a.b q4
   replace x3a := x3a.b q4
   have x4a : Blk w4 w3.heap.size 46 #[.bool b3, .slice A3 n3 c3] := (blkAt _ _ _ (by simp)).below hb4 (by simp)
   have bw4 := bw3.trans (q4.mono bw3.size)
   have lw4 : w3.heap.size + 1 ≤ w4.heap.size := by have := hb4.size; simp at this; omega
   clear q4 bw3
   obtain ⟨cx3aa, cx3ab⟩ := x3a.c2
   obtain ⟨lx3aa, lx3ab, lx3ac, lx3ad⟩ := lts0 x3a.lt
   obtain ⟨cx4aa, cx4ab⟩ := x4a.c2
   obtain ⟨lx4aa, lx4ab, lx4ac, lx4ad⟩ := lts0 x4a.lt
   go_wp2_with fail
   (with_reducible refine (g_form _ b2 A2 n2 c2 (valZ F) (65536) ?_ b3 A3 n3 c3 (valZ B) (65536) ?_ (Rat.divInt (valZ F) (valZ B)) 65536 ?_ ?_ ?_ ?_).mono ?_); (exact h2.iz); (exact h3.iz); (exact HNE.out); (rfl); (exact HS.out); (omega); rintro e w5 ⟨b5, A5, n5, c5, A'5, n'5, c'5, rfl, h5, q5⟩
   clear cx3aa cx3ab lx3aa lx3ab lx3ac lx3ad cx4aa cx4ab lx4aa lx4ab lx4ac lx4ad
   replace h2 := h2.belw q5
   replace h3 := h3.belw q5
   replace x1a := x1a.b q5
   replace x3a := x3a.b q5
   replace x4a := x4a.b q5
   have bw5 := bw4.trans (q5.mono bw4.size)
   have lw5 := q5.size
   clear q5 bw4
   go_wp2_with fail
   (with_reducible refine (g_text_v _ b5 A5 n5 c5 A'5 n'5 c'5 (Rat.divInt (valZ F) (valZ B)) (65536) ?_ s H4.out ?_ ?_).mono ?_); (exact h5.qz); (omega); (omega); rintro e w6 ⟨rfl, q6⟩
   replace h2 := h2.belw q6
   replace h3 := h3.belw q6
   replace h5 := h5.belw q6
   replace x1a := x1a.b q6
   replace x3a := x3a.b q6
   replace x4a := x4a.b q6
   have bw6 := bw5.trans (q6.mono bw5.size)
   have lw6 := q6.size
   clear q6 bw5
   obtain ⟨cx3aa, cx3ab⟩ := x3a.c2
   obtain ⟨lx3aa, lx3ab, lx3ac, lx3ad⟩ := lts0 x3a.lt
   obtain ⟨cx4aa, cx4ab⟩ := x4a.c2
   obtain ⟨lx4aa, lx4ab, lx4ac, lx4ad⟩ := lts0 x4a.lt
   go_wp2_with fail
   (with_reducible refine (g_form _ b2 A2 n2 c2 (valZ F) (65536) ?_ b3 A3 n3 c3 (valZ B) (65536) ?_ (Rat.divInt (valZ F) (valZ B)) 65536 ?_ ?_ ?_ ?_).mono ?_); (exact h2.iz); (exact h3.iz); (exact HNE.out); (rfl); (exact HS.out); (omega); rintro e w7 ⟨b7, A7, n7, c7, A'7, n'7, c'7, rfl, h7, q7⟩
   clear cx3aa cx3ab lx3aa lx3ab lx3ac lx3ad cx4aa cx4ab lx4aa lx4ab lx4ac lx4ad
   replace h2 := h2.belw q7
   replace h3 := h3.belw q7
   replace h5 := h5.belw q7
   replace x1a := x1a.b q7
   replace x3a := x3a.b q7
   replace x4a := x4a.b q7
   have bw7 := bw6.trans (q7.mono bw6.size)
   have lw7 := q7.size
   clear q7 bw6
   obtain ⟨cx1aa, cx1ab, cx1ac⟩ := x1a.c3
   obtain ⟨fx1aa, fx1ab, fx1ac⟩ := x1a.f3
   obtain ⟨lx1aa, lx1ab, lx1ac, lx1ad⟩ := lts0 x1a.lt
   go_wp2_with fail
   refine bodyPost_ret (v := .tuple #[.agg #[.bool b7, .slice A7 n7 c7, .slice A'7 n'7 c'7], .int .i64 0]) (by simp [results, Tryz.results38, go_sem, *] <;> first | rfl | exact ⟨rfl, rfl⟩) rfl ?_
   exact ⟨b7, A7, n7, c7, A'7, n'7, c'7, rfl, h7.keep ((((Kp.refl w7).sb w.heap.size 0 x1a.box (by decide) (.bool b7)).sb w.heap.size 1 (x1a.box.set ⟨w.heap.size, 0, none⟩ (.bool b7)) (by decide) (.slice A7 n7 c7)).sb w.heap.size 2 ((x1a.box.set ⟨w.heap.size, 0, none⟩ (.bool b7)).set ⟨w.heap.size, 1, none⟩ (.slice A7 n7 c7)) (by decide) (.slice A'7 n'7 c'7)), (((bw7.sc w.heap.size 0 (by omega) (.bool b7)).sc w.heap.size 1 (by omega) (.slice A7 n7 c7)).sc w.heap.size 2 (by omega) (.slice A'7 n'7 c'7))⟩
theorem g_parse_w1 (w : World) (s : List UInt8) (hl : s.length ≤ 65536) (hs : ∀ c ∈ s, c ≠ 47 ∧ c ≠ 46) (h1 : okZ s = false) :
    Calls Tryz.prog 38 #[strV s] w (RetFe w (.int .i64 2) 0 1) := by
  have H1 := Lib.hid h1
  clear h1
  have hszs := size_v s
  have hlen : ((65536 : Int) < (s.length : Int)) = False := by simp; omega
  have HP := Lib.hid hs
  clear hs
  go_enter Tryz.func38, Tryz.ntmps38
  go_wp2_with fail
  have p1 := ((Kp.refl w).alloc (.cells #[.bool false, .slice none 0 0, .slice none 0 0] 24))
  have bw1 := ((brefl w).alloc (by first | omega | (simp <;> omega)) (.cells #[.bool false, .slice none 0 0, .slice none 0 0] 24))
  have x1a : Blk (w.alloc (.cells #[.bool false, .slice none 0 0, .slice none 0 0] 24)) w.heap.size 24 #[.bool false, .slice none 0 0, .slice none 0 0] := (blkAt _ _ _ (by simp))
  have lw1 : w.heap.size + 1 ≤ (w.alloc (.cells #[.bool false, .slice none 0 0, .slice none 0 0] 24)).heap.size := by simp
  generalize hE1 : (w.alloc (.cells #[.bool false, .slice none 0 0, .slice none 0 0] 24)) = w1 at p1 bw1 lw1 x1a ⊢
  clear hE1
  go_loopw [17] (fun iv wr => ∃ (i : Nat), iv = .int .i64 (i : Nat) ∧ i ≤ s.length ∧ Kp w1 wr ∧ Below w.heap.size w wr ∧ w1.heap.size ≤ wr.heap.size ∧ Blk wr w.heap.size 24 #[.bool false, .slice none 0 0, .slice none 0 0]) (fun iv _ => s.length - (intOf iv).toNat)
  case atStart => exact ⟨0, rfl, Nat.zero_le _, Kp.refl _, bw1, Nat.le_refl _, x1a⟩
  case round =>
    clear x1a
    obtain ⟨i, rfl, hi, hkp, hbw, hlw, x1a⟩ := hrel
    by_cases hlt : i < s.length
    · obtain ⟨d, hd⟩ : ∃ d, s[i]'(by omega) = d := ⟨_, rfl⟩
      have hget : ∀ h, (⟨s.toArray⟩ : ByteArray)[i]'h = d := fun h => hd
      have hne := HP.out _ (List.getElem_mem hlt)
      rw [hd] at hne
      obtain ⟨dn, hdn⟩ : ∃ dn, d.toNat = dn := ⟨_, rfl⟩
      have h47 : ((dn : Int) == 47) = false := by simp; intro e; exact hne.1 (UInt8.toNat.inj (by rw [hdn]; show dn = 47; omega))
      have h46 : ((dn : Int) == 46) = false := by simp; intro e; exact hne.2 (UInt8.toNat.inj (by rw [hdn]; show dn = 46; omega))
      have hlts : i < s.length := by omega
      clear hd hne
      go_wp2_with fail
      go_roundw
      case rel => exact ⟨i + 1, by go_num, by omega, hkp, hbw, by omega, x1a⟩
      case measure => simp [intOf]; omega
    · have hiF : i = s.length := by omega
      subst hiF
      go_wp2_with fail
      (with_reducible refine (r_parse_bad _ (s) (by omega) H1.out).mono ?_); rintro e w2 ⟨b2, A2, n2, c2, rfl, h2, q2⟩
      replace x1a := x1a.b q2
      have bw2 := hbw.trans (q2.mono hbw.size)
      have lw2 := q2.size
      clear q2
      go_wp2_with fail
      have p3 := ((Kp.refl w2).alloc (.cells #[.bool b2, .slice A2 n2 c2] 46))
      have bw3 := (bw2.alloc (by first | omega | (simp <;> omega)) (.cells #[.bool b2, .slice A2 n2 c2] 46))
      have x3a : Blk (w2.alloc (.cells #[.bool b2, .slice A2 n2 c2] 46)) w2.heap.size 46 #[.bool b2, .slice A2 n2 c2] := (blkAt _ _ _ (by simp))
      replace x1a := (x1a.alloc (.cells #[.bool b2, .slice A2 n2 c2] 46))
      have lw3 : w2.heap.size + 1 ≤ (w2.alloc (.cells #[.bool b2, .slice A2 n2 c2] 46)).heap.size := by simp
      generalize hE3 : (w2.alloc (.cells #[.bool b2, .slice A2 n2 c2] 46)) = w3 at p3 bw3 lw3 x3a x1a ⊢
      clear hE3
      replace h2 := h2.keep p3
      clear bw2
      have cx1aa : w3.cell? ⟨w.heap.size, 0, none⟩ = some (.bool false) := x1a.cell 0
      have fx1aa : w3.frozen? ⟨w.heap.size, 0, none⟩ = false := x1a.frozen 0
      have cx1ab : w3.cell? ⟨w.heap.size, 1, none⟩ = some (.slice none 0 0) := x1a.cell 1
      have fx1ab : w3.frozen? ⟨w.heap.size, 1, none⟩ = false := x1a.frozen 1
      have cx1ac : w3.cell? ⟨w.heap.size, 2, none⟩ = some (.slice none 0 0) := x1a.cell 2
      have fx1ac : w3.frozen? ⟨w.heap.size, 2, none⟩ = false := x1a.frozen 2
      obtain ⟨lx1aa, lx1ab, lx1ac, lx1ad⟩ := lts0 x1a.lt
      obtain ⟨cx3aa, cx3ab⟩ := x3a.c2
      obtain ⟨lx3aa, lx3ab, lx3ac, lx3ad⟩ := lts0 x3a.lt
      have nfx3_0_0 : ¬ w2.heap.size = w.heap.size := by omega
      have nex3_0_0 : ¬ w2.heap.size = w.heap.size := by omega
      go_region_held3 (fun w' => SeesX w3.heap.size (w.heap.size) w3 w') (first | with_reducible exact SeesX.of (Nat.le_refl _) (by assumption) | with_reducible exact SeesX.of (Nat.le_refl _) (brefl _).drew | with_reducible exact (SeesX.set (SeesX.set (SeesX.set (SeesX.of (Nat.le_refl _) (by assumption))))) | with_reducible exact (SeesX.set (SeesX.set (SeesX.of (Nat.le_refl _) (by assumption)))) | with_reducible exact (SeesX.set (SeesX.of (Nat.le_refl _) (by assumption))) | exact SeesX.of (Nat.le_refl _) (below_drewN (brefl _) 1) | exact SeesX.of (Nat.le_refl _) (below_drewN (by assumption) _))
        (first
          | (go_at_call 94; (with_reducible refine (g_one _).mono ?_); rintro e w4 ⟨b4, A4, n4, c4, rfl, h4, hb4⟩; replace hb4 := bnext (below_drewN (brefl _) 1) hb4; have q4 : Below w3.heap.size w3 w4 := bnext (brefl w3) hb4; replace h2 := h2.belw hb4)
          | (go_at_call 93; (with_reducible refine (g_form _ b2 A2 n2 c2 (0) (0) ?_ b4 A4 n4 c4 (1) (1) ?_ (0) 1 ?_ ?_ ?_ ?_).mono ?_); (exact h2.iz); (exact h4.iz); (decide); (exact int_q _); (exact Sz_int (z := 0) (by decide) (by decide)); (omega); rintro e w5 ⟨b5, A5, n5, c5, A'5, n'5, c'5, rfl, h5, hb5⟩; have q5 : Below w3.heap.size w3 w5 := bnext q4 hb5; replace h2 := h2.belw hb5; replace h4 := h4.belw hb5; have x1a := x1a.b q5; obtain ⟨cx1aa, cx1ab, cx1ac⟩ := x1a.c3; obtain ⟨fx1aa, fx1ab, fx1ac⟩ := x1a.f3))
      have bw5 := bw3.trans (q5.mono bw3.size)
      clear cx1aa fx1aa cx1ab fx1ab cx1ac fx1ac lx1aa lx1ab lx1ac lx1ad cx3aa cx3ab lx3aa lx3ab lx3ac lx3ad
      replace x3a := x3a.b q5
      have lw5 := q5.size
      obtain ⟨cx1aa, cx1ab, cx1ac⟩ := x1a.c3
      obtain ⟨fx1aa, fx1ab, fx1ac⟩ := x1a.f3
      go_wp2_with fail
      refine bodyPost_ret (v := .tuple #[.agg #[.bool b5, .slice A5 n5 c5, .slice A'5 n'5 c'5], .int .i64 2]) (by simp [results, Tryz.results38, go_sem, *] <;> first | rfl | exact ⟨rfl, rfl⟩) rfl ?_
      exact ⟨_, _, _, _, _, _, _, rfl, (h5).keep ((((Kp.refl w5).sb w.heap.size 0 x1a.box (by decide) (.bool b5)).sb w.heap.size 1 (x1a.box.set ⟨w.heap.size, 0, none⟩ (.bool b5)) (by decide) (.slice A5 n5 c5)).sb w.heap.size 2 ((x1a.box.set ⟨w.heap.size, 0, none⟩ (.bool b5)).set ⟨w.heap.size, 1, none⟩ (.slice A5 n5 c5)) (by decide) (.slice A'5 n'5 c'5)), (((bw5.sc w.heap.size 0 (by omega) (.bool b5)).sc w.heap.size 1 (by omega) (.slice A5 n5 c5)).sc w.heap.size 2 (by omega) (.slice A'5 n'5 c'5))⟩
theorem g_parse_w2 (w : World) (s : List UInt8) (hl : s.length ≤ 65536) (hs : ∀ c ∈ s, c ≠ 47 ∧ c ≠ 46) (h1 : okZ s = true) :
    Calls Tryz.prog 38 #[strV s] w (RetFe w (.int .i64 0) ((valZ s : Int) : Rat) 65536) := by
  have HS := Lib.hid (Sz_int (valZ_lt2 h1 hl) (show 0 < 65536 by decide))
  have H1 := Lib.hid h1
  clear h1
  have hszs := size_v s
  have hlen : ((65536 : Int) < (s.length : Int)) = False := by simp; omega
  have HP := Lib.hid hs
  clear hs
  go_enter Tryz.func38, Tryz.ntmps38
  go_wp2_with fail
  have p1 := ((Kp.refl w).alloc (.cells #[.bool false, .slice none 0 0, .slice none 0 0] 24))
  have bw1 := ((brefl w).alloc (by first | omega | (simp <;> omega)) (.cells #[.bool false, .slice none 0 0, .slice none 0 0] 24))
  have x1a : Blk (w.alloc (.cells #[.bool false, .slice none 0 0, .slice none 0 0] 24)) w.heap.size 24 #[.bool false, .slice none 0 0, .slice none 0 0] := (blkAt _ _ _ (by simp))
  have lw1 : w.heap.size + 1 ≤ (w.alloc (.cells #[.bool false, .slice none 0 0, .slice none 0 0] 24)).heap.size := by simp
  generalize hE1 : (w.alloc (.cells #[.bool false, .slice none 0 0, .slice none 0 0] 24)) = w1 at p1 bw1 lw1 x1a ⊢
  clear hE1
  go_loopw [17] (fun iv wr => ∃ (i : Nat), iv = .int .i64 (i : Nat) ∧ i ≤ s.length ∧ Kp w1 wr ∧ Below w.heap.size w wr ∧ w1.heap.size ≤ wr.heap.size ∧ Blk wr w.heap.size 24 #[.bool false, .slice none 0 0, .slice none 0 0]) (fun iv _ => s.length - (intOf iv).toNat)
  case atStart => exact ⟨0, rfl, Nat.zero_le _, Kp.refl _, bw1, Nat.le_refl _, x1a⟩
  case round =>
    clear x1a
    obtain ⟨i, rfl, hi, hkp, hbw, hlw, x1a⟩ := hrel
    by_cases hlt : i < s.length
    · obtain ⟨d, hd⟩ : ∃ d, s[i]'(by omega) = d := ⟨_, rfl⟩
      have hget : ∀ h, (⟨s.toArray⟩ : ByteArray)[i]'h = d := fun h => hd
      have hne := HP.out _ (List.getElem_mem hlt)
      rw [hd] at hne
      obtain ⟨dn, hdn⟩ : ∃ dn, d.toNat = dn := ⟨_, rfl⟩
      have h47 : ((dn : Int) == 47) = false := by simp; intro e; exact hne.1 (UInt8.toNat.inj (by rw [hdn]; show dn = 47; omega))
      have h46 : ((dn : Int) == 46) = false := by simp; intro e; exact hne.2 (UInt8.toNat.inj (by rw [hdn]; show dn = 46; omega))
      have hlts : i < s.length := by omega
      clear hd hne
      go_wp2_with fail
      go_roundw
      case rel => exact ⟨i + 1, by go_num, by omega, hkp, hbw, by omega, x1a⟩
      case measure => simp [intOf]; omega
    · have hiF : i = s.length := by omega
      subst hiF
      go_wp2_with fail
      (with_reducible refine (r_parse_ok6 _ (s) (by omega) H1.out).mono ?_); rintro e w2 ⟨b2, A2, n2, c2, rfl, h2, q2⟩
      replace x1a := x1a.b q2
      have bw2 := hbw.trans (q2.mono hbw.size)
      have lw2 := q2.size
      clear q2
      go_wp2_with fail
      have p3 := ((Kp.refl w2).alloc (.cells #[.bool b2, .slice A2 n2 c2] 46))
      have bw3 := (bw2.alloc (by first | omega | (simp <;> omega)) (.cells #[.bool b2, .slice A2 n2 c2] 46))
      have x3a : Blk (w2.alloc (.cells #[.bool b2, .slice A2 n2 c2] 46)) w2.heap.size 46 #[.bool b2, .slice A2 n2 c2] := (blkAt _ _ _ (by simp))
      replace x1a := (x1a.alloc (.cells #[.bool b2, .slice A2 n2 c2] 46))
      have lw3 : w2.heap.size + 1 ≤ (w2.alloc (.cells #[.bool b2, .slice A2 n2 c2] 46)).heap.size := by simp
      generalize hE3 : (w2.alloc (.cells #[.bool b2, .slice A2 n2 c2] 46)) = w3 at p3 bw3 lw3 x3a x1a ⊢
      clear hE3
      replace h2 := h2.keep p3
      clear bw2
      have cx1aa : w3.cell? ⟨w.heap.size, 0, none⟩ = some (.bool false) := x1a.cell 0
      have fx1aa : w3.frozen? ⟨w.heap.size, 0, none⟩ = false := x1a.frozen 0
      have cx1ab : w3.cell? ⟨w.heap.size, 1, none⟩ = some (.slice none 0 0) := x1a.cell 1
      have fx1ab : w3.frozen? ⟨w.heap.size, 1, none⟩ = false := x1a.frozen 1
      have cx1ac : w3.cell? ⟨w.heap.size, 2, none⟩ = some (.slice none 0 0) := x1a.cell 2
      have fx1ac : w3.frozen? ⟨w.heap.size, 2, none⟩ = false := x1a.frozen 2
      obtain ⟨lx1aa, lx1ab, lx1ac, lx1ad⟩ := lts0 x1a.lt
      obtain ⟨cx3aa, cx3ab⟩ := x3a.c2
      obtain ⟨lx3aa, lx3ab, lx3ac, lx3ad⟩ := lts0 x3a.lt
      have nfx3_0_0 : ¬ w2.heap.size = w.heap.size := by omega
      have nex3_0_0 : ¬ w2.heap.size = w.heap.size := by omega
      go_region_held3 (fun w' => SeesX w3.heap.size (w.heap.size) w3 w') (first | with_reducible exact SeesX.of (Nat.le_refl _) (by assumption) | with_reducible exact SeesX.of (Nat.le_refl _) (brefl _).drew | with_reducible exact (SeesX.set (SeesX.set (SeesX.set (SeesX.of (Nat.le_refl _) (by assumption))))) | with_reducible exact (SeesX.set (SeesX.set (SeesX.of (Nat.le_refl _) (by assumption)))) | with_reducible exact (SeesX.set (SeesX.of (Nat.le_refl _) (by assumption))) | exact SeesX.of (Nat.le_refl _) (below_drewN (brefl _) 1) | exact SeesX.of (Nat.le_refl _) (below_drewN (by assumption) _))
        (first
          | (go_at_call 94; (with_reducible refine (g_one _).mono ?_); rintro e w4 ⟨b4, A4, n4, c4, rfl, h4, hb4⟩; replace hb4 := bnext (below_drewN (brefl _) 1) hb4; have q4 : Below w3.heap.size w3 w4 := bnext (brefl w3) hb4; replace h2 := h2.belw hb4)
          | (go_at_call 93; (with_reducible refine (g_form _ b2 A2 n2 c2 (valZ s) (65536) ?_ b4 A4 n4 c4 (1) (1) ?_ (((valZ s : Int) : Rat)) 65536 ?_ ?_ ?_ ?_).mono ?_); (exact h2.iz); (exact h4.iz); (decide); (exact int_q _); (exact HS.out); (omega); rintro e w5 ⟨b5, A5, n5, c5, A'5, n'5, c'5, rfl, h5, hb5⟩; have q5 : Below w3.heap.size w3 w5 := bnext q4 hb5; replace h2 := h2.belw hb5; replace h4 := h4.belw hb5; have x1a := x1a.b q5; obtain ⟨cx1aa, cx1ab, cx1ac⟩ := x1a.c3; obtain ⟨fx1aa, fx1ab, fx1ac⟩ := x1a.f3))
      have bw5 := bw3.trans (q5.mono bw3.size)
      clear cx1aa fx1aa cx1ab fx1ab cx1ac fx1ac lx1aa lx1ab lx1ac lx1ad cx3aa cx3ab lx3aa lx3ab lx3ac lx3ad
      replace x3a := x3a.b q5
      have lw5 := q5.size
      obtain ⟨cx1aa, cx1ab, cx1ac⟩ := x1a.c3
      obtain ⟨fx1aa, fx1ab, fx1ac⟩ := x1a.f3
      go_wp2_with fail
      refine bodyPost_ret (v := .tuple #[.agg #[.bool b5, .slice A5 n5 c5, .slice A'5 n'5 c'5], .int .i64 0]) (by simp [results, Tryz.results38, go_sem, *] <;> first | rfl | exact ⟨rfl, rfl⟩) rfl ?_
      exact ⟨_, _, _, _, _, _, _, rfl, (h5).keep ((((Kp.refl w5).sb w.heap.size 0 x1a.box (by decide) (.bool b5)).sb w.heap.size 1 (x1a.box.set ⟨w.heap.size, 0, none⟩ (.bool b5)) (by decide) (.slice A5 n5 c5)).sb w.heap.size 2 ((x1a.box.set ⟨w.heap.size, 0, none⟩ (.bool b5)).set ⟨w.heap.size, 1, none⟩ (.slice A5 n5 c5)) (by decide) (.slice A'5 n'5 c'5)), (((bw5.sc w.heap.size 0 (by omega) (.bool b5)).sc w.heap.size 1 (by omega) (.slice A5 n5 c5)).sc w.heap.size 2 (by omega) (.slice A'5 n'5 c'5))⟩
end Go.Proofs.YtkpjhmpjihchpaaGreatDoor

namespace Go.Proofs.YtkpjhmpjihchpaaGreatDoor
open Go Go.RowKit Bn
attribute [local go_sem ↓] Go.wp_at_zero Go.wp_at_succ
theorem g_parse_o (w : World) (s : List UInt8) (x : Int) (q : Rat) (h : FracOut s x q) : Calls Tryz.prog 38 #[strV s] w (RetFe w (.int .i64 x) q 65536) := by
  have mono : ∀ {v : Value} {q : Rat} {k : Nat} {e : Ending} {w' : World}, k ≤ 65536 → RetFe w v q k e w' → RetFe w v q 65536 e w' := by
    rintro v q k e w' hk ⟨b, A, n, c, D, m, d, he, hv, hb⟩
    exact ⟨b, A, n, c, D, m, d, he, hv.mono hk, hb⟩
  have two : ∀ {l : List UInt8}, 47 ∉ l → 46 ∉ l → ∀ c ∈ l, c ≠ 47 ∧ c ≠ 46 := fun h1 h2 c hc => ⟨fun e => h1 (e ▸ hc), fun e => h2 (e ▸ hc)⟩
  rcases h with ⟨h, rfl, rfl⟩ | ⟨F, B, hl, hs, hF, h64, h, rfl, rfl⟩ | ⟨F, B, hl, hs, hF, h, rfl, rfl⟩ | ⟨F, B, hl, hd, hs, hF, h, rfl, rfl⟩ | ⟨F, B, hl, hd, hs, hF, h, rfl, rfl⟩ | ⟨hl, hd, hs, h, rfl, rfl⟩ | ⟨hl, hd, hs, h, rfl, rfl⟩
  · exact (g_parse_big w s h).mono fun _ _ r => mono (by decide) r
  · obtain ⟨h1, _⟩ := decOk_parts h
    have h47 : 47 ∉ F := by
      have hT : 47 ∉ tailS F := by
        intro hm
        have := List.all_eq_true.1 (okZ_parts h1).2.1
        rcases head_cases (tailS F) with ⟨_, b⟩ | ⟨_, b⟩
        · rw [b] at hm
          rcases List.mem_cons.1 hm with e | e
          · exact absurd e (by decide)
          · exact absurd (this _ e) (by decide)
        · rw [b] at this; exact absurd (this _ hm) (by decide)
      rcases head_cases F with ⟨_, b⟩ | ⟨_, b⟩
      · rw [b]; intro hm
        rcases List.mem_cons.1 hm with e | e
        · exact absurd e (by decide)
        · exact hT e
      · rw [b] at hT; exact hT
    exact (g_parse_dot w s F B hl hs (two h47 hF) 0 _ (.inl ⟨h64, h, rfl, rfl⟩)).mono fun _ _ r => mono (by decide) r
  · rcases split_at 47 F with h47 | ⟨F1, F2, hs2, hF1⟩
    · exact (g_parse_dot w s F B hl hs (two h47 hF) 2 _ (.inr ⟨h, rfl, rfl⟩)).mono fun _ _ r => mono (by decide) r
    · have hs3 : s = F1 ++ 47 :: (F2 ++ 46 :: B) := by rw [hs, hs2]; simp
      have hF46 : 46 ∉ F1 := fun e => hF (by rw [hs2]; exact List.mem_append_left _ e)
      cases h1 : okZ F1
      · exact (g_parse_s1 w s F1 _ hl hs3 (two hF1 hF46) h1).mono fun _ _ r => mono (by decide) r
      · have h2 : okZ (F2 ++ 46 :: B) = false := by
          cases h2 : okZ (F2 ++ 46 :: B)
          · rfl
          · exact absurd (List.mem_append_right _ (List.mem_cons_self)) (okZ_slash h2).2
        exact (g_parse_s2 w s F1 _ hl hs3 (two hF1 hF46) h1 h2).mono fun _ _ r => mono (by decide) r
  · have hF46 : 46 ∉ F := fun e => hd (by rw [hs]; exact List.mem_append_left _ e)
    obtain ⟨h1, h2, h3, h4, h5⟩ := quoOk_parts h
    exact g_parse_s5 w s F B hl hs (two hF hF46) h1 h2 (Int.sign_eq_one_of_pos h3) (by rw [hs]; exact (frac_text h1 h2 h3).2 ⟨h4, h5⟩)
  · have hF46 : 46 ∉ F := fun e => hd (by rw [hs]; exact List.mem_append_left _ e)
    rcases quoOk_not h with h1 | ⟨h1, h2⟩ | ⟨h1, h2, h3⟩ | ⟨h1, h2, h3, h4⟩ | ⟨h1, h2, h3, h4, h5⟩
    · exact (g_parse_s1 w s F B hl hs (two hF hF46) h1).mono fun _ _ r => mono (by decide) r
    · exact (g_parse_s2 w s F B hl hs (two hF hF46) h1 h2).mono fun _ _ r => mono (by decide) r
    · refine (g_parse_s3 w s F B hl hs (two hF hF46) h1 h2 ?_).mono fun _ _ r => mono (by decide) r
      rcases sign3 (valZ B) with e | e | e
      · rw [e]; decide
      · have := Int.sign_eq_one_iff_pos.1 e; omega
      · rw [e]; decide
    · exact (g_parse_s4 w s F B hl hs (two hF hF46) h1 h2 (Int.sign_eq_one_of_pos h3) (fun e => by rw [hs] at e; exact ((frac_text h1 h2 h3).1 e).1 h4)).mono fun _ _ r => mono (by decide) r
    · exact (g_parse_s4 w s F B hl hs (two hF hF46) h1 h2 (Int.sign_eq_one_of_pos h3) (fun e => by rw [hs] at e; exact h5 ((frac_text h1 h2 h3).1 e).2)).mono fun _ _ r => mono (by decide) r
  · exact g_parse_w2 w s hl (two hs hd) h
  · exact (g_parse_w1 w s hl (two hs hd) h).mono fun _ _ r => mono (by decide) r
end Go.Proofs.YtkpjhmpjihchpaaGreatDoor

namespace Go.Proofs.YtkpjhmpjihchpaaGreatDoor
open Go Go.RowKit Bn
attribute [local go_sem ↓] Go.wp_at_zero Go.wp_at_succ
theorem rsq1 {w : World} {g : Nat} {T : TypeId} {b : Bool} {A : Option Addr} {n c : Nat} {D : Option Addr} {m e : Nat}
    (hb : Blk w g T #[.bool b, .slice A n c, .slice D m e]) : RsQ w g 1 (fun i : Nat => n) (fun i : Nat => m) := by
  refine ⟨hb.lt, fun i hi => ?_⟩
  match i, hi with
  | 0, _ => exact ⟨_, _, _, _, _, hb.cell 0, hb.cell 1, hb.cell 2⟩
theorem QD.short2 {w : World} {b : Bool} {A D : Option Addr} {n c m e k : Nat} {r : RD} (h : QD w b A n c D m e r k) (hs : n ≤ 12 ∧ m ≤ 12) : QD w b A n c D m e r 12 := ⟨h.1, h.2.1, h.2.2.1, hs.1, hs.2⟩
end Go.Proofs.YtkpjhmpjihchpaaGreatDoor

namespace Go.Proofs.YtkpjhmpjihchpaaGreatDoor
open Go Go.RowKit Bn
attribute [local go_sem ↓] Go.wp_at_zero Go.wp_at_succ
theorem b_words (w : World) (A : Option Addr) (n c : Nat) (l : List Nat) (wa : Wd w A n c l) (A' : Option Addr) (n' c' : Nat) (wb : Wd w A' n' c' l) (hn : n ≤ 1000000000) :
  Calls Tryz.prog 128 #[.slice A n c, .slice A' n' c'] w (RetV w (.bool true)) := by
 have hnn : n' = n := by rw [wa.2.1, wb.2.1]
 subst hnn
 have HA := Lib.hid wa
 have HB := Lib.hid wb
 clear wa wb
 go_enter Tryz.func128, Tryz.ntmps128
 go_wp2_with fail
 go_loopw [5] (fun iv wr => ∃ (i q : Nat), i ≤ n' ∧ iv = .int .i64 (i : Nat) ∧ wr = w.drewN q) (fun iv _ => n' - (intOf iv).toNat)
 case atStart => exact ⟨0, 0, Nat.zero_le _, rfl, rfl⟩
 case round =>
  obtain ⟨i, q, hi, rfl, rfl⟩ := hrel
  by_cases hlt : i < n'
  ·obtain ⟨g, o, rfl, hc1⟩ := HA.out.at_ (by omega)
   obtain ⟨g', o', rfl, hc2⟩ := HB.out.at_ (by omega)
   have h1 := hc1 i hlt
   have h2 := hc2 i hlt
   have hi0 : (0 : Int) ≤ (i : Int) := by omega
   have hi1 : (i : Int) < (n' : Int) := by omega
   generalize wd l i = x at h1 h2
   clear hc1 hc2
   go_wp2_with fail
   go_quiet (fail)
   go_wp2
   go_roundw
   case rel => exact ⟨i + 1, _, by omega, by go_num, rfl⟩
   case measure => simp [intOf]; omega
  ·go_wp2
   go_ret
   exact retB rfl (by repeat (first | exact Below.refl _ _ | refine below_drewN ?_ _))
theorem b_rat (w : World) (b : Bool) (A : Option Addr) (n c : Nat) (D : Option Addr) (m e : Nat) (b' : Bool) (A' : Option Addr) (n' c' : Nat) (D' : Option Addr) (m' e' : Nat) (q : Rat) (k k' : Nat) (h : QV w b A n c D m e q k) (h' : QV w b' A' n' c' D' m' e' q k') (hk : k ≤ 1000000) :
  Calls Tryz.prog 80 #[.agg #[.bool b, .slice A n c, .slice D m e], .agg #[.bool b', .slice A' n' c', .slice D' m' e']] w (RetV w (.bool true)) := by
 obtain ⟨e1, ha, hd, hk1, hk2⟩ := h
 obtain ⟨e1', ha', hd', _, _⟩ := h'
 subst e1 e1'
 have HE : ((rd q).neg == (rd q).neg) = true := by simp
 have HA := Lib.hid (And.intro ha ha')
 have HD := Lib.hid (And.intro hd hd')
 clear ha ha' hd hd'
 go_enter Tryz.func80, Tryz.ntmps80
 go_wp2_with fail
 (with_reducible refine (b_words _ A n c (rd q).num ?_ A' n' c' ?_ ?_).mono ?_); (exact HA.out.1.keep (((Kp.refl _).alloc _).alloc _)); (exact HA.out.2.keep (((Kp.refl _).alloc _).alloc _)); (omega); rintro e w1 ⟨rfl, hb⟩
 have q1 : Below w.heap.size w w1 := (((Below.refl _ _).alloc (Nat.le_refl _) _).alloc (by simp) _).trans (hb.mono (by simp <;> omega))
 have x0 : Blk w1 w.heap.size 24 #[.bool (rd q).neg, .slice A n c, .slice D m e] := ((blkAt w _ _ rfl).alloc _).below hb (by simp <;> omega)
 have x1 : Blk w1 (w.heap.size + 1) 24 #[.bool (rd q).neg, .slice A' n' c', .slice D' m' e'] := (blkAt _ _ _ (by simp)).below hb (by simp)
 have c02 : w1.cell? ⟨w.heap.size, 2, none⟩ = some (.slice D m e) := x0.cell 2
 have c12 : w1.cell? ⟨w.heap.size + 1, 2, none⟩ = some (.slice D' m' e') := x1.cell 2
 clear hb
 go_wp2_with fail
 (with_reducible refine (b_words _ D m e (rd q).den ?_ D' m' e' ?_ ?_).mono ?_); (exact HD.out.1.belw q1); (exact HD.out.2.belw q1); (omega); rintro e w2 ⟨rfl, hb2⟩
 go_wp2_with fail
 go_ret
 exact ⟨rfl, q1.trans (hb2.mono q1.size)⟩
end Go.Proofs.YtkpjhmpjihchpaaGreatDoor

namespace Go.Proofs.YtkpjhmpjihchpaaGreatDoor
open Go Go.RowKit Bn
attribute [local go_sem ↓] Go.wp_at_zero Go.wp_at_succ
theorem b_rat2 (w : World) (b : Bool) (A : Option Addr) (n c : Nat) (D : Option Addr) (m e : Nat) (q : Rat) (k : Nat) (h : QV w b A n c D m e q k) (b' : Bool) (A' : Option Addr) (n' c' : Nat) (D' : Option Addr) (m' e' : Nat) (q' : Rat) (k' : Nat) (h' : QV w b' A' n' c' D' m' e' q' k') (he : q = q') (hk : k ≤ 1000000) : Calls Tryz.prog 80 #[.agg #[.bool b, .slice A n c, .slice D m e], .agg #[.bool b', .slice A' n' c', .slice D' m' e']] w (RetV w (.bool true)) := by
  subst he; exact b_rat w b A n c D m e b' A' n' c' D' m' e' q k k' h h' hk
theorem rs_same (w : World) (b : Bool) (A : Option Addr) (n c : Nat) (D : Option Addr) (m e : Nat) (q : Rat) (k : Nat) (h : QV w b A n c D m e q k) (b' : Bool) (A' : Option Addr) (n' c' : Nat) (D' : Option Addr) (m' e' : Nat) (q' : Rat) (k' : Nat) (h' : QV w b' A' n' c' D' m' e' q' k') (he : q = q') (hk : k ≤ 1000000) :
  Calls Tryz.prog 33 #[.agg #[.bool b, .slice A n c, .slice D m e], .agg #[.bool b', .slice A' n' c', .slice D' m' e']] w (RetV w (.bool true)) := by
 have HE := Lib.hid he
 clear he
 go_enter Tryz.func33, Tryz.ntmps33
 go_wp2_with fail
 (with_reducible refine (b_rat2 _ b A n c D m e (q) (k) ?_ b' A' n' c' D' m' e' (q') (k') ?_ ?_ ?_).mono ?_); (exact (h.belw (((Below.refl _ _).alloc (Nat.le_refl _) _).alloc (by simp) _))); (exact (h'.belw (((Below.refl _ _).alloc (Nat.le_refl _) _).alloc (by simp) _))); (exact HE.out); (omega); rintro e w1 ⟨rfl, hb1⟩
 have q1 := (((Below.refl _ _).alloc (Nat.le_refl _) _).alloc (by simp) _).trans (hb1.mono (by simp <;> omega))
 replace h := h.belw q1
 replace h' := h'.belw q1
 have x1a : Blk w1 w.heap.size 24 #[.bool b, .slice A n c, .slice D m e] := ((blkAt _ _ _ (by simp)).alloc _).below hb1 (by simp <;> omega)
 have x1b := (blkAt _ _ _ (g := w.heap.size + 1) (by simp)).below hb1 (by simp)
 have bw1 := (brefl w).trans (q1.mono (brefl w).size)
 have lw1 : w.heap.size + 2 ≤ w1.heap.size := by have := hb1.size; simp at this; omega
 clear q1
 go_wp2_with fail
 go_ret
 exact retB rfl bw1
end Go.Proofs.YtkpjhmpjihchpaaGreatDoor

namespace Go.Proofs.YtkpjhmpjihchpaaGreatDoor
open Go Go.RowKit Bn
attribute [local go_sem ↓] Go.wp_at_zero Go.wp_at_succ
theorem QZ.short2 {w : World} {b : Bool} {A D : Option Addr} {n c m e k : Nat} {q : Rat} (h : QZ w b A n c D m e q k) (hs : n ≤ 12 ∧ m ≤ 12) : QZ w b A n c D m e q 12 := by
  obtain ⟨a, h, e⟩ := h
  exact ⟨a, h.short2 hs, e⟩
end Go.Proofs.YtkpjhmpjihchpaaGreatDoor

/- Walks: FractionTexts. -/
namespace Go.Proofs.YtkpjhmpjihchpaaGreatDoor
open Go Go.RowKit Bn
attribute [local go_sem ↓] Go.wp_at_zero Go.wp_at_succ
theorem f_text_q (w : World) (b : Bool) (A : Option Addr) (n c : Nat) (D : Option Addr) (m e : Nat) (q : Rat) (k : Nat) (h : QZ w b A n c D m e q k) (T : List UInt8) (hT : ratText q = T) (h0 : 0 < k) (hk : k ≤ 40000000) (htab : Tab w) : Calls Tryz.prog 39 #[.agg #[.bool b, .slice A n c, .slice D m e]] w (RetV w (strV T)) := f_text w b A n c D m e q k h h0 hk htab T hT
theorem l_FractionTexts (w : World) (b : Bool) (A : Option Addr) (n c : Nat) (D : Option Addr) (m e : Nat) (q : Rat) (k : Nat) (H : QZ w b A n c D m e q k) (s : List UInt8) (hs : s.length < 9223372036854775808) (htab : Tab w) (hmx : Mx w) :
    Calls Tryz.prog 5 #[.agg #[.bool b, .slice A n c, .slice D m e], strV s] w (RetV w (.bool true)) := by
  have hsz := size_v s
  obtain ⟨x, u, hp⟩ := fracOut s
  obtain ⟨T, hT⟩ : ∃ T, ratText q = T := ⟨_, rfl⟩
  have HP := Lib.hid hp
  have HT := Lib.hid hT
  clear hp hT
  go_enter Tryz.func5, Tryz.ntmps5
  go_wp2_with fail
  (with_reducible refine (l2_short _ (w.heap.size + 1) 1 (fun i : Nat => n) (fun i : Nat => m) ?_ ?_).mono ?_); (exact rsq1 (blkAt _ _ _ (by simp))); (decide); rintro e w1 ⟨r1, rfl, hr1, hb1⟩
  have q1 := (((Below.refl _ _).alloc (Nat.le_refl _) _).alloc (by simp) _).trans (hb1.mono (by simp <;> omega))
  replace H := H.belw q1
  have x1a : Blk w1 w.heap.size 24 #[.bool b, .slice A n c, .slice D m e] := ((blkAt _ _ _ (by simp)).alloc _).below hb1 (by simp <;> omega)
  have x1b := (blkAt _ _ _ (g := w.heap.size + 1) (by simp)).below hb1 (by simp)
  have bw1 := (brefl w).trans (q1.mono (brefl w).size)
  have lw1 : w.heap.size + 2 ≤ w1.heap.size := by have := hb1.size; simp at this; omega
  clear q1
  cases r1
  · clear hr1
    go_wp2_with fail
    (with_reducible refine (l2_awake _  ?_ ?_).mono ?_); (exact htab.belw bw1); (exact hmx.belw bw1); rintro e w2 ⟨rfl, q2⟩
    replace H := H.belw q2
    replace x1a := x1a.b q2
    replace x1b := x1b.b q2
    have bw2 := bw1.trans (q2.mono bw1.size)
    have lw2 := q2.size
    clear q2 bw1
    go_wp2_with fail
    go_ret
    exact retB rfl bw2
  · replace H := QZ.short2 H (hr1 rfl 0 (by decide))
    clear hr1
    rcases (show s.length ≤ 300 ∨ (300 < s.length ∧ s.length ≤ 65536) ∨ (65536 < s.length ∧ s.length ≤ 65636) ∨ 65636 < s.length by omega) with hc | ⟨hc, hd⟩ | ⟨hc, hd⟩ | hc
    · have hc2 : s.length ≤ 65636 := by omega
      go_wp2_with fail
      (with_reducible refine (l2_awake _  ?_ ?_).mono ?_); (exact htab.belw bw1); (exact hmx.belw bw1); rintro e w2 ⟨rfl, q2⟩
      replace H := H.belw q2
      replace x1a := x1a.b q2
      replace x1b := x1b.b q2
      have bw2 := bw1.trans (q2.mono bw1.size)
      have lw2 := q2.size
      clear q2 bw1
      go_wp2_with fail
      (with_reducible refine (f_parse_o _ (s) x u (hmx.belw bw2) HP.out).mono ?_); rintro e w3 ⟨b3, A3, n3, c3, A'3, n'3, c'3, rfl, h3, q3⟩
      replace H := H.belw q3
      replace x1a := x1a.b q3
      replace x1b := x1b.b q3
      have bw3 := bw2.trans (q3.mono bw2.size)
      have lw3 := q3.size
      clear q3 bw2
      go_wp2_with fail
      (with_reducible refine (g_parse_o _ (s) x u HP.out).mono ?_); rintro e w4 ⟨b4, A4, n4, c4, A'4, n'4, c'4, rfl, h4, hb4⟩
      have q4 := ((Below.refl _ _).alloc (Nat.le_refl _) _).trans (hb4.mono (by simp))
      replace H := H.belw q4
      replace h3 := h3.belw q4
      replace x1a := x1a.b q4
      replace x1b := x1b.b q4
      have x4a : Blk w4 w3.heap.size 24 #[.bool b3, .slice A3 n3 c3, .slice A'3 n'3 c'3] := (blkAt _ _ _ (by simp)).below hb4 (by simp)
      have bw4 := bw3.trans (q4.mono bw3.size)
      have lw4 : w3.heap.size + 1 ≤ w4.heap.size := by have := hb4.size; simp at this; omega
      clear q4 bw3
      go_wp2_with fail
      have p5 := ((Kp.refl w4).alloc (.cells #[.bool b4, .slice A4 n4 c4, .slice A'4 n'4 c'4] 24))
      have bw5 := (bw4.alloc (by first | omega | (simp <;> omega)) (.cells #[.bool b4, .slice A4 n4 c4, .slice A'4 n'4 c'4] 24))
      have x5a : Blk (w4.alloc (.cells #[.bool b4, .slice A4 n4 c4, .slice A'4 n'4 c'4] 24)) w4.heap.size 24 #[.bool b4, .slice A4 n4 c4, .slice A'4 n'4 c'4] := (blkAt _ _ _ (by simp))
      replace x1a := (x1a.alloc (.cells #[.bool b4, .slice A4 n4 c4, .slice A'4 n'4 c'4] 24))
      replace x1b := (x1b.alloc (.cells #[.bool b4, .slice A4 n4 c4, .slice A'4 n'4 c'4] 24))
      replace x4a := (x4a.alloc (.cells #[.bool b4, .slice A4 n4 c4, .slice A'4 n'4 c'4] 24))
      have lw5 : w4.heap.size + 1 ≤ (w4.alloc (.cells #[.bool b4, .slice A4 n4 c4, .slice A'4 n'4 c'4] 24)).heap.size := by simp
      generalize hE5 : (w4.alloc (.cells #[.bool b4, .slice A4 n4 c4, .slice A'4 n'4 c'4] 24)) = w5 at p5 bw5 lw5 x5a x1a x1b x4a ⊢
      clear hE5
      replace H := H.keep p5
      replace h3 := h3.keep p5
      replace h4 := h4.keep p5
      clear bw4
      obtain ⟨cx1aa, cx1ab, cx1ac⟩ := x1a.c3
      obtain ⟨lx1aa, lx1ab, lx1ac, lx1ad⟩ := lts0 x1a.lt
      obtain ⟨lx1ba, lx1bb, lx1bc, lx1bd⟩ := lts1 x1b.lt
      obtain ⟨cx4aa, cx4ab, cx4ac⟩ := x4a.c3
      obtain ⟨lx4aa, lx4ab, lx4ac, lx4ad⟩ := lts0 x4a.lt
      obtain ⟨cx5aa, cx5ab, cx5ac⟩ := x5a.c3
      obtain ⟨lx5aa, lx5ab, lx5ac, lx5ad⟩ := lts0 x5a.lt
      go_region_held3 (fun w' => Sees w5.heap.size w5 w') (first | with_reducible exact Sees.of (Nat.le_refl _) (by assumption) | with_reducible exact Sees.of (Nat.le_refl _) (brefl _).drew | exact Sees.of (Nat.le_refl _) (below_drewN (brefl _) 1) | exact Sees.of (Nat.le_refl _) (below_drewN (by assumption) _))
        (first
          | (go_at_call 39; (with_reducible refine (f_text_q _ b A n c D m e (q) (12) ?_ T ?_ ?_ ?_ ?_).mono ?_); (exact H); (exact HT.out); (first | omega | decide | assumption); (first | omega | decide | assumption); (first | exact htab.belw bw5 | exact (htab.belw bw5).belw (below_drewN (brefl _) 1) | exact (htab.belw bw5).belw (brefl _).drew | fail); rintro e w6 ⟨rfl, hb6⟩; replace hb6 := bnext (below_drewN (brefl _) 1) hb6; have q6 : Below w5.heap.size w5 w6 := bnext (brefl w5) hb6; replace H := H.belw hb6; replace h3 := h3.belw hb6; replace h4 := h4.belw hb6)
          | (go_at_call 40; (with_reducible refine (g_text_v _ b A n c D m e (q) (12) ?_ T ?_ ?_ ?_).mono ?_); (exact H); (exact HT.out); (first | omega | decide | assumption); (first | omega | decide | assumption); rintro e w7 ⟨rfl, hb7⟩; have q7 : Below w5.heap.size w5 w7 := bnext q6 hb7; replace H := H.belw hb7; replace h3 := h3.belw hb7; replace h4 := h4.belw hb7)
          | (go_at_call 21; (with_reducible refine (b_num_v _ x).mono ?_); rintro e w8 ⟨rfl, hb8⟩; have q8 : Below w5.heap.size w5 w8 := bnext q7 hb8; replace H := H.belw hb8; replace h3 := h3.belw hb8; replace h4 := h4.belw hb8)
          | (go_at_call 33; (with_reducible refine (rs_same _ b3 A3 n3 c3 A'3 n'3 c'3 (u) (65536) ?_ b4 A4 n4 c4 A'4 n'4 c'4 (u) (65536) ?_  ?_ ?_).mono ?_); (exact h3); (exact h4); (exact rfl); (omega); rintro e w9 ⟨rfl, hb9⟩; have q9 : Below w5.heap.size w5 w9 := bnext q8 hb9; replace H := H.belw hb9; replace h3 := h3.belw hb9; replace h4 := h4.belw hb9))
      have bw9 := bw5.trans (q9.mono bw5.size)
      clear cx1aa cx1ab cx1ac lx1aa lx1ab lx1ac lx1ad lx1ba lx1bb lx1bc lx1bd cx4aa cx4ab cx4ac lx4aa lx4ab lx4ac lx4ad cx5aa cx5ab cx5ac lx5aa lx5ab lx5ac lx5ad
      replace x1a := x1a.b q9
      replace x1b := x1b.b q9
      replace x4a := x4a.b q9
      replace x5a := x5a.b q9
      have lw9 := q9.size
      go_wp2_with fail
      go_ret
      exact retB rfl bw9
    · go_wp2_with fail
      (with_reducible refine (l2_awake _  ?_ ?_).mono ?_); (exact htab.belw bw1); (exact hmx.belw bw1); rintro e w2 ⟨rfl, q2⟩
      replace H := H.belw q2
      replace x1a := x1a.b q2
      replace x1b := x1b.b q2
      have bw2 := bw1.trans (q2.mono bw1.size)
      have lw2 := q2.size
      clear q2 bw1
      go_wp2_with fail
      go_ret
      exact retB rfl bw2
    · have hc2 : 300 < s.length := by omega
      go_wp2_with fail
      (with_reducible refine (l2_awake _  ?_ ?_).mono ?_); (exact htab.belw bw1); (exact hmx.belw bw1); rintro e w2 ⟨rfl, q2⟩
      replace H := H.belw q2
      replace x1a := x1a.b q2
      replace x1b := x1b.b q2
      have bw2 := bw1.trans (q2.mono bw1.size)
      have lw2 := q2.size
      clear q2 bw1
      go_wp2_with fail
      (with_reducible refine (f_parse_o _ (s) x u (hmx.belw bw2) HP.out).mono ?_); rintro e w3 ⟨b3, A3, n3, c3, A'3, n'3, c'3, rfl, h3, q3⟩
      replace H := H.belw q3
      replace x1a := x1a.b q3
      replace x1b := x1b.b q3
      have bw3 := bw2.trans (q3.mono bw2.size)
      have lw3 := q3.size
      clear q3 bw2
      go_wp2_with fail
      (with_reducible refine (g_parse_o _ (s) x u HP.out).mono ?_); rintro e w4 ⟨b4, A4, n4, c4, A'4, n'4, c'4, rfl, h4, hb4⟩
      have q4 := ((Below.refl _ _).alloc (Nat.le_refl _) _).trans (hb4.mono (by simp))
      replace H := H.belw q4
      replace h3 := h3.belw q4
      replace x1a := x1a.b q4
      replace x1b := x1b.b q4
      have x4a : Blk w4 w3.heap.size 24 #[.bool b3, .slice A3 n3 c3, .slice A'3 n'3 c'3] := (blkAt _ _ _ (by simp)).below hb4 (by simp)
      have bw4 := bw3.trans (q4.mono bw3.size)
      have lw4 : w3.heap.size + 1 ≤ w4.heap.size := by have := hb4.size; simp at this; omega
      clear q4 bw3
      go_wp2_with fail
      have p5 := ((Kp.refl w4).alloc (.cells #[.bool b4, .slice A4 n4 c4, .slice A'4 n'4 c'4] 24))
      have bw5 := (bw4.alloc (by first | omega | (simp <;> omega)) (.cells #[.bool b4, .slice A4 n4 c4, .slice A'4 n'4 c'4] 24))
      have x5a : Blk (w4.alloc (.cells #[.bool b4, .slice A4 n4 c4, .slice A'4 n'4 c'4] 24)) w4.heap.size 24 #[.bool b4, .slice A4 n4 c4, .slice A'4 n'4 c'4] := (blkAt _ _ _ (by simp))
      replace x1a := (x1a.alloc (.cells #[.bool b4, .slice A4 n4 c4, .slice A'4 n'4 c'4] 24))
      replace x1b := (x1b.alloc (.cells #[.bool b4, .slice A4 n4 c4, .slice A'4 n'4 c'4] 24))
      replace x4a := (x4a.alloc (.cells #[.bool b4, .slice A4 n4 c4, .slice A'4 n'4 c'4] 24))
      have lw5 : w4.heap.size + 1 ≤ (w4.alloc (.cells #[.bool b4, .slice A4 n4 c4, .slice A'4 n'4 c'4] 24)).heap.size := by simp
      generalize hE5 : (w4.alloc (.cells #[.bool b4, .slice A4 n4 c4, .slice A'4 n'4 c'4] 24)) = w5 at p5 bw5 lw5 x5a x1a x1b x4a ⊢
      clear hE5
      replace H := H.keep p5
      replace h3 := h3.keep p5
      replace h4 := h4.keep p5
      clear bw4
      obtain ⟨cx1aa, cx1ab, cx1ac⟩ := x1a.c3
      obtain ⟨lx1aa, lx1ab, lx1ac, lx1ad⟩ := lts0 x1a.lt
      obtain ⟨lx1ba, lx1bb, lx1bc, lx1bd⟩ := lts1 x1b.lt
      obtain ⟨cx4aa, cx4ab, cx4ac⟩ := x4a.c3
      obtain ⟨lx4aa, lx4ab, lx4ac, lx4ad⟩ := lts0 x4a.lt
      obtain ⟨cx5aa, cx5ab, cx5ac⟩ := x5a.c3
      obtain ⟨lx5aa, lx5ab, lx5ac, lx5ad⟩ := lts0 x5a.lt
      go_region_held3 (fun w' => Sees w5.heap.size w5 w') (first | with_reducible exact Sees.of (Nat.le_refl _) (by assumption) | with_reducible exact Sees.of (Nat.le_refl _) (brefl _).drew | exact Sees.of (Nat.le_refl _) (below_drewN (brefl _) 1) | exact Sees.of (Nat.le_refl _) (below_drewN (by assumption) _))
        (first
          | (go_at_call 39; (with_reducible refine (f_text_q _ b A n c D m e (q) (12) ?_ T ?_ ?_ ?_ ?_).mono ?_); (exact H); (exact HT.out); (first | omega | decide | assumption); (first | omega | decide | assumption); (first | exact htab.belw bw5 | exact (htab.belw bw5).belw (below_drewN (brefl _) 1) | exact (htab.belw bw5).belw (brefl _).drew | fail); rintro e w6 ⟨rfl, hb6⟩; replace hb6 := bnext (below_drewN (brefl _) 1) hb6; have q6 : Below w5.heap.size w5 w6 := bnext (brefl w5) hb6; replace H := H.belw hb6; replace h3 := h3.belw hb6; replace h4 := h4.belw hb6)
          | (go_at_call 40; (with_reducible refine (g_text_v _ b A n c D m e (q) (12) ?_ T ?_ ?_ ?_).mono ?_); (exact H); (exact HT.out); (first | omega | decide | assumption); (first | omega | decide | assumption); rintro e w7 ⟨rfl, hb7⟩; have q7 : Below w5.heap.size w5 w7 := bnext q6 hb7; replace H := H.belw hb7; replace h3 := h3.belw hb7; replace h4 := h4.belw hb7)
          | (go_at_call 21; (with_reducible refine (b_num_v _ x).mono ?_); rintro e w8 ⟨rfl, hb8⟩; have q8 : Below w5.heap.size w5 w8 := bnext q7 hb8; replace H := H.belw hb8; replace h3 := h3.belw hb8; replace h4 := h4.belw hb8)
          | (go_at_call 33; (with_reducible refine (rs_same _ b3 A3 n3 c3 A'3 n'3 c'3 (u) (65536) ?_ b4 A4 n4 c4 A'4 n'4 c'4 (u) (65536) ?_  ?_ ?_).mono ?_); (exact h3); (exact h4); (exact rfl); (omega); rintro e w9 ⟨rfl, hb9⟩; have q9 : Below w5.heap.size w5 w9 := bnext q8 hb9; replace H := H.belw hb9; replace h3 := h3.belw hb9; replace h4 := h4.belw hb9))
      have bw9 := bw5.trans (q9.mono bw5.size)
      clear cx1aa cx1ab cx1ac lx1aa lx1ab lx1ac lx1ad lx1ba lx1bb lx1bc lx1bd cx4aa cx4ab cx4ac lx4aa lx4ab lx4ac lx4ad cx5aa cx5ab cx5ac lx5aa lx5ab lx5ac lx5ad
      replace x1a := x1a.b q9
      replace x1b := x1b.b q9
      replace x4a := x4a.b q9
      replace x5a := x5a.b q9
      have lw9 := q9.size
      go_wp2_with fail
      go_ret
      exact retB rfl bw9
    · have hc2 : 300 < s.length := by omega
      have hc3 : 65536 < s.length := by omega
      go_wp2_with fail
      (with_reducible refine (l2_awake _  ?_ ?_).mono ?_); (exact htab.belw bw1); (exact hmx.belw bw1); rintro e w2 ⟨rfl, q2⟩
      replace H := H.belw q2
      replace x1a := x1a.b q2
      replace x1b := x1b.b q2
      have bw2 := bw1.trans (q2.mono bw1.size)
      have lw2 := q2.size
      clear q2 bw1
      go_wp2_with fail
      go_ret
      exact retB rfl bw2
end Go.Proofs.YtkpjhmpjihchpaaGreatDoor

/- FractionTexts: Text and Parse, and their errors, are those of the reference; for every input the law returns true. The listed library variables are tied to the program text. -/
namespace Go.Proofs.YtkpjhmpjihchpaaGreatDoor
open Go Go.RowKit Bn Go.ChangeShapes Go.WideShapes Go.ChangeAt
theorem texts_contract (H : Type) (enc : TypeId × Value → H) (W : World) (base : Nat) (args : Array Value) (ds gs : List (DataW H)) (before : List MemPlace)
    (hval0 : ∀ (j : Nat) t v, Tryz.f5.params[j]? = some t → args[j]? = some v → Value.okWide Tryz.prog W .any base t v)
    (hW : DataW.Whole enc Tryz.prog Tryz.f5.params.toList Rows.fractionTextsSpec.vars false W args.toList ds gs before) (hL : laidMetH Tryz.prog Rows.fractionTextsRow.laid W) (hsh : W.ShapedOpen Tryz.prog) :
    Calls Tryz.prog 5 args W fun e W' => ∃ v, e = .returned v ∧ Rows.fractionTextsSpec.post enc Tryz.prog Tryz.f5 false true false false W args v W' := by
  have hval : ∀ (j : Nat) t v, Tryz.f5.params[j]? = some t → args[j]? = some v → Value.okWide Tryz.prog W .any base t v := hval0
  have htab : Tab W := tab_of_laid hL
  have hmx : Mx W := mx_of_shaped hsh
  have hW' := hW
  obtain ⟨p, q, hA0, hV, rfl, hfz, hnd⟩ := hW
  have hA : DataW.TrodAll enc Tryz.prog W 0 (fun _ => true) true Tryz.f5.params.toList args.toList ds p := hA0
  rw [Tryz.params5] at hA hval
  obtain ⟨v0, v1, d0, d1, p0, p1, rfl, rfl, rfl, h0, h1⟩ := trodAll_two hA
  obtain ⟨rfl, rfl⟩ := trodVars_none hV
  obtain ⟨b, A, n, c, D, m, e, r, k, rfl, H⟩ := frac_open (hval 0 _ v0 rfl rfl) h0
  obtain ⟨s, rfl, rfl, rfl, hs⟩ := Go.ChangeMaps.open_string Tryz.underlying9 (hval 1 _ v1 rfl rfl) h1
  obtain ⟨t, rfl⟩ : ∃ t : List UInt8, s = ⟨t.toArray⟩ := ⟨s.data.toList, by simp⟩
  have ht : t.length < 9223372036854775808 := by unfold maxLen at hs; have h9 : t.length ≤ _ := hs; omega
  refine (l_FractionTexts W b A n c D m e r.q k ⟨r, H, rfl⟩ t ht htab hmx).mono fun e W' ⟨he, hb⟩ => ?_
  subst he
  exact ⟨_, rfl, law_post laid_out Tryz.underlying4 hW' rfl rfl (by kernel_rfl) rfl rfl rfl hb⟩
theorem texts_lifted (os : Os) (started : os.Started) (H : Type) (enc : TypeId × Value → H) (F : Stop.Interp) :
    ReturnsInHanded {} Tryz.checked os 5 .any ((OpenSpec.ofChange Rows.fractionTextsSpec).preRow enc Tryz.prog Tryz.f5 Rows.fractionTextsRow.domain false Rows.fractionTextsRow.laid) (((OpenSpec.ofChange Rows.fractionTextsSpec).at F).post enc Tryz.prog Tryz.f5 false true false false) := by
  have hx : DataW.whole enc Tryz.prog ((laidWorld os).forCall (fun _ _ => 0) ⟨#[], #[.agg #[.bool false, .slice none 0 0, .slice none 0 0], .string ⟨#[]⟩], []⟩).memory Tryz.f5.params.toList Rows.fractionTextsSpec.vars false (#[.agg #[.bool false, .slice none 0 0, .slice none 0 0], .string ⟨#[]⟩] : Array Value).toList 8 = some ([.agg [.lit (.bool false), .nil, .nil], .lit (.string [])], [], []) := by kernel_rfl
  have hl : laidMet Tryz.prog Rows.fractionTextsRow.laid ((laidWorld os).forCall (fun _ _ => 0) ⟨#[], #[.agg #[.bool false, .slice none 0 0, .slice none 0 0], .string ⟨#[]⟩], []⟩).memory := laidMet_of_run' 8 (by kernel_rfl) (by kernel_rfl)
  refine returnsInHanded_of_row (C := Tryz.checked) (s := OpenSpec.ofChange Rows.fractionTextsSpec) own_knob started (by kernel_rfl) Tryz.func5
    (witness_row_at (enc := enc) (C := Tryz.checked) false (laidWorld os) #[.agg #[.bool false, .slice none 0 0, .slice none 0 0], .string ⟨#[]⟩] rfl (by kernel_rfl) (by kernel_rfl) (by kernel_rfl)
      (OpenSpec.preRow_of_cond 8 hx (by kernel_rfl) (fun k hk => by cases hk) (by kernel_rfl) hl)) ?_
  intro W base args ds gs before hval hW _ _ _ hL hsh _
  exact texts_contract H enc W base args ds gs before hval hW hL hsh
theorem texts_j2 : (Rows.fractionTextsRow.inPlace == Tryz.pinned.checked.prog.inPlace 5) = true := by kernel_rfl
theorem texts_j3 : (Rows.fractionTextsRow.unfollowed == Tryz.pinned.checked.prog.unfollowed 5) = true := by kernel_rfl
theorem texts_j4 : (Rows.fractionTextsRow.recurses == Tryz.pinned.checked.prog.recurses 5) = true := by kernel_rfl
theorem texts_j5 : (Rows.fractionTextsRow.named == Tryz.pinned.checked.prog.varsNamed 5) = true := by kernel_rfl
theorem texts_joined : joinedFacts Tryz.pinned.checked.prog 5 Tryz.f5 (OpenSpec.ofChange Rows.fractionTextsSpec).bare Rows.fractionTextsRow = true := joined_parts (by kernel_rfl) texts_j2 texts_j3 texts_j4 texts_j5 (by kernel_rfl)
theorem texts_inst : Tryz.f5.isInstance Tryz.pinned.checked.prog Rows.fractionTextsRow.origin Rows.fractionTextsRow.targs := of_decide_eq_true (by kernel_rfl)
theorem texts_said : Rows.FractionTextsSaid :=
  OpenClaim.holds_of_cond 5 Tryz.f5 rfl rfl rfl rfl rfl rfl rfl ⟨rfl, rfl, rfl, rfl, rfl⟩ rfl rfl rfl rfl rfl (by kernel_rfl) Tryz.func5 texts_joined
    texts_inst (by unfold Func.isWrapper; first | (rw [if_pos (by decide +kernel)]; kernel_rfl) | (rw [if_neg (by decide +kernel)]; exact ⟨rfl, rfl⟩))
    (fun os started H enc _ F => by rw [OpenClaim.pre_eq_preRow]; exact texts_lifted os started H enc F)
theorem texts_plain (f : FuncId) (fn : Func) (hf : Tryz.pinned.checked.prog.funcNamed "linkwork/linkworklaw02.FractionTexts" = some f) (hfn : Tryz.pinned.checked.prog.funcs[f]? = some fn) :
    true = Tryz.pinned.checked.prog.looks [] ∧ ∀ (j : Nat) t, fn.params[j]? = some t → Tryz.pinned.checked.prog.wantsStandIn t = false := by
  obtain rfl : f = 5 := Option.some.inj ((show Tryz.prog.funcNamed "linkwork/linkworklaw02.FractionTexts" = some 5 by kernel_rfl).symm.trans hf) |>.symm
  obtain rfl : fn = Tryz.f5 := (Option.some.inj (Tryz.func5.symm.trans hfn)).symm
  refine ⟨by kernel_rfl, fun j t ht => ?_⟩
  rw [Tryz.params5] at ht
  have hm : t ∈ [24, 9] := by
    have := Array.mem_of_getElem? ht
    simp at this ⊢
    first
      | exact this
      | exact .inl this
  have hall : ([24, 9].all fun u => !Tryz.prog.wantsStandIn u) = true := by kernel_rfl
  exact (show Tryz.prog.wantsStandIn t = false by simpa using List.all_eq_true.1 hall t hm)
theorem texts_holds : Rows.FractionTextsCardSaid :=
  Claim7.holds_tied_plain_at .later [] _ _ _ _ texts_said (fun _ h => by cases h) (by kernel_rfl) (fun _ h => by cases h) fractionTexts_row_tie rfl ⟨rfl, rfl⟩ (by kernel_rfl) rfl texts_plain (by kernel_rfl)
end Go.Proofs.YtkpjhmpjihchpaaGreatDoor
