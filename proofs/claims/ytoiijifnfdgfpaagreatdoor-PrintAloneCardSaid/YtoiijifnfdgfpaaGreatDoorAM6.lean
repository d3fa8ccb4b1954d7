/- PrintAlone: the text of a body is read as the body, that of a number as the number; for every input the law returns true. The listed library variables are tied to the program text. -/
import Derived.Test.YtoiijifnfdgfpaaGreatDoorCards
import Derived.Test.YtoiijifnfdgfpaaGreatDoorTie
import Derived.ProofKit
import Derived.WalkKit
import Derived.OpenShut
import Derived.Deep.DeepHandedRow
import Derived.Lib.LaidTab
import Derived.Shelf.Vars
import Derived.Deep.Slices
import Derived.SizedLaws
import Derived.Deep.RegionHeld3
import Derived.ChangeMaps5
import Derived.Test.YtoiijifnfdgfpaaGreatDoorAM5
set_option linter.unusedVariables false
set_option maxHeartbeats 8000000
set_option maxRecDepth 100000
/- Walks: the Print laws: PrintAlone. -/
namespace Go.Proofs.YtoiijifnfdgfpaaGreatDoor
open Go Go.RowKit Bn
attribute [local go_sem ↓] Go.wp_at_zero Go.wp_at_succ
theorem QV.asD {w w2 : World} {b b2 : Bool} {A A2 D D2 : Option Addr} {n n2 c c2 m m2 e e2 k k2 : Nat} {r : RD} (h : QV w b A n c D m e r.q k) (h' : QD w2 b2 A2 n2 c2 D2 m2 e2 r k2) (ho : r.ok = true) : QD w b A n c D m e r k := by
  have e1 := rd_of_ok h'.2.1.1 h'.2.2.1.1 ho
  unfold QV at h
  rwa [e1] at h
theorem f_parse_rt (w : World) (q : Rat) (hmx : Mx w) (hl : (ratText q).length ≤ 65536) : Calls Tryz.prog 34 #[strV (ratText q)] w (RetFe w .nilIface q 65536) := by
  have hdot : 46 ∉ ratText q := fun h => by rcases rat_mem h with h | h | h <;> revert h <;> decide
  rcases ratText_out q hl with ⟨_, h, _⟩ | ⟨F, B, _, hs, _, _, _, _, _⟩ | ⟨_, _, _, _, _, _, h, _⟩ | ⟨F, B, hl, hd, hs, hF, h, hx, hq⟩ | ⟨_, _, _, _, _, _, _, h, _⟩ | ⟨hl, hd, hs, h, hx, hq⟩ | ⟨_, _, _, _, h, _⟩
  · exact absurd h (by decide)
  · exact absurd (hs ▸ List.mem_append_right _ (List.mem_cons_self)) hdot
  · exact absurd h (by decide)
  · have hd2 := cut_no hd
    have hc : Lib.cut (ratText q) [47] = (F, B, true) := by rw [hs]; exact cut_at hF
    have hF6 : F.length ≤ 65536 := by rw [hs] at hl; simp at hl; omega
    have hB6 : B.length ≤ 65536 := by rw [hs] at hl; simp at hl; omega
    obtain ⟨h1, h2, h3, h4, h5⟩ := quoOk_parts h
    have h0 := f_parse_q6 w (ratText q) F B hmx hl hd2 hc hF6 hB6 h1 h2 (Int.sign_eq_one_of_pos h3) (by unfold cmpI; rw [if_neg (by omega), if_neg (by omega)]) (by rw [h5]; rfl)
    rwa [← hq] at h0
  · exact absurd h (by decide)
  · have h0 := f_parse_w2 w (ratText q) hmx hl (cut_no hd) (cut_no hs) h
    rwa [← hq] at h0
  · exact absurd h (by decide)
theorem rdA40 {w : World} {b : Bool} {A D : Option Addr} {n c m e k : Nat} {r : RD} (h : QD w b A n c D m e r k) (hn : n ≤ 40) (hm : m ≤ 40) : QD w b A n c D m e r 40 := ⟨h.1, h.2.1, h.2.2.1, hn, hm⟩
theorem SlS.mkM {k : Nat} {w : World} {A : Option Addr} {n c : Nat} {l : List MarkL} (h : SlS (MkAt k) 7 w A n c l) (hk : k ≤ 1000000 := by decide) : SlS (MkAt 1000000) 7 w A n c l := by
  have hr : ∀ g o r, RatAt w g o r k → RatAt w g o r 1000000 := fun g o r ⟨b, A, n, c, D, m, e, h1, h2, h3, h4⟩ => ⟨b, A, n, c, D, m, e, h1, h2, h3, h4.1, h4.2.1, h4.2.2.1, Nat.le_trans h4.2.2.2.1 hk, Nat.le_trans h4.2.2.2.2 hk⟩
  exact h.mono_ fun g o m _ hm => ⟨hm.1, hr _ _ _ hm.2.1, hr _ _ _ hm.2.2.1, hm.2.2.2⟩
abbrev frA (u0 u1 u2 u3 u4 u5 u6 u7 u8 u9 u10 u11 u12 u13 u14 u15 u16 u17 u18 u19 u20 u21 u22 u23 u24 u25 u26 u27 u28 u29 u30 u31 u32 u33 u34 u35 u36 u37 u38 u39 u40 u41 u42 u43 u44 u45 u46 u47 u48 u49 u50 u51 u52 u53 u54 u55 u56 u57 u58 u59 u60 u61 u62 u63 u64 u65 u66 u67 u68 u69 u70 u71 u72 u73 u74 u75 u76 u77 : Value) (xf : Nat → Value) : Act := ⟨List.toArray (u0 :: u1 :: u2 :: u3 :: u4 :: u5 :: u6 :: u7 :: u8 :: u9 :: u10 :: u11 :: u12 :: u13 :: u14 :: u15 :: u16 :: u17 :: u18 :: u19 :: u20 :: u21 :: u22 :: u23 :: u24 :: u25 :: u26 :: u27 :: u28 :: u29 :: u30 :: u31 :: u32 :: u33 :: u34 :: u35 :: u36 :: u37 :: u38 :: u39 :: u40 :: u41 :: u42 :: u43 :: u44 :: u45 :: u46 :: u47 :: u48 :: u49 :: u50 :: u51 :: u52 :: u53 :: u54 :: u55 :: u56 :: u57 :: u58 :: u59 :: u60 :: u61 :: u62 :: u63 :: u64 :: u65 :: u66 :: u67 :: u68 :: u69 :: u70 :: u71 :: u72 :: u73 :: u74 :: u75 :: u76 :: u77 :: xf 0 :: xf 1 :: xf 2 :: xf 3 :: xf 4 :: xf 5 :: xf 6 :: xf 7 :: xf 8 :: xf 9 :: xf 10 :: xf 11 :: []), []⟩
theorem l_PrintAlone (w : World) (A : Option Addr) (n c : Nat) (B : Option Addr) (p d : Nat) (C : Option Addr) (q e : Nat) (L : LinkL) (h : LkS reachBytes w A n c B p d C q e L) (b' : Bool) (A' : Option Addr) (n' c' : Nat) (D : Option Addr) (m e' : Nat) (r : RD) (hr : QD w b' A' n' c' D m e' r reachBytes) (htab : Tab w) (hmx : Mx w) : Calls Tryz.prog 10 #[.agg #[strV L.name, .slice A n c, .slice B p d, .slice C q e], .agg #[.bool b', .slice A' n' c', .slice D m e']] w (RetV w (.bool true)) := by
 have H := Lib.hid h
 have HTab := Lib.hid htab
 have HM := Lib.hid hmx
 have HR := Lib.hid hr
 obtain ⟨v, hv⟩ : ∃ v, lgL L = v := ⟨_, rfl⟩
 have HV := Lib.hid hv
 have hb1 := big47 hr.2.2.2.1
 have hb2 := big47 hr.2.2.2.2
 clear h htab hv hmx hr
 go_enter Tryz.func10, Tryz.ntmps10
 go_wp2_with fail
 have q0 : Below w.heap.size w ((w.alloc (.cells #[strV L.name, .slice A n c, .slice B p d, .slice C q e] 36)).alloc (.cells #[.bool b', .slice A' n' c', .slice D m e'] 72)) := ((brefl w).alloc (Nat.le_refl _) _).alloc (by simp) _
 have x0 : Blk ((w.alloc (.cells #[strV L.name, .slice A n c, .slice B p d, .slice C q e] 36)).alloc (.cells #[.bool b', .slice A' n' c', .slice D m e'] 72)) w.heap.size 36 #[strV L.name, .slice A n c, .slice B p d, .slice C q e] := (blkAt w _ _ rfl).alloc _
 have y0 : Blk ((w.alloc (.cells #[strV L.name, .slice A n c, .slice B p d, .slice C q e] 36)).alloc (.cells #[.bool b', .slice A' n' c', .slice D m e'] 72)) (w.heap.size + 1) 72 #[.bool b', .slice A' n' c', .slice D m e'] := blkAt _ _ _ (by simp)
 generalize ((w.alloc (.cells #[strV L.name, .slice A n c, .slice B p d, .slice C q e] 36)).alloc (.cells #[.bool b', .slice A' n' c', .slice D m e'] 72)) = w0 at q0 x0 y0 ⊢
 (with_reducible refine (l21_awake w0 (HTab.out.belw q0)).mono ?_); rintro e1 w1 ⟨rfl, hbx⟩
 have q1 := q0.trans (hbx.mono q0.size)
 have x1 := x0.below hbx x0.lt
 have y1 := y0.below hbx y0.lt
 have hl1 : w.heap.size < w1.heap.size := x1.lt
 have hm1 : w.heap.size + 1 < w1.heap.size := y1.lt
 obtain ⟨c0, c1, c2, c3⟩ := x1.c4
 clear x0 y0 q0 hbx
 go_wp2_with fail
 (with_reducible refine (l_large w1 A n c B p d C q e L (H.out.belw q1) v HV.out).mono ?_); rintro e1 w2 ⟨rfl, hbx⟩
 have q2 := q1.trans (hbx.mono q1.size)
 have x2 := x1.below hbx x1.lt
 have y2 := y1.below hbx y1.lt
 have hl2 : w.heap.size < w2.heap.size := x2.lt
 have hm2 : w.heap.size + 1 < w2.heap.size := y2.lt
 clear c0 c1 c2 c3 x1 y1 q1 hbx
 cases v
 rotate_left
 ·go_wp2_with fail
  (with_reducible refine (l21_awake w2 (HTab.out.belw q2)).mono ?_); rintro e1 w3 ⟨rfl, hb3⟩
  have q3 := q2.trans (hb3.mono q2.size)
  go_wp2_with fail
  go_ret
  exact ⟨rfl, q3⟩
 have d0 := y2.cell 0
 have d1 := y2.cell 1
 have d2 := y2.cell 2
 have u1 : IntKind.i64.wrap ((n' : Int) + (m : Int)) = (n' : Int) + (m : Int) := wrap_i64 (by omega) (by omega)
 by_cases h40 : 40 < n' + m
 ·have f4 : ((40 : Int) < (n' : Int) + (m : Int)) = True := eq_true (by omega)
  go_wp2_with fail
  (with_reducible refine (l21_awake w2 (HTab.out.belw q2)).mono ?_); rintro e1 w3 ⟨rfl, hb3⟩
  have q3 := q2.trans (hb3.mono q2.size)
  go_wp2_with fail
  go_ret
  exact ⟨rfl, q3⟩
 have f4 : ((40 : Int) < (n' : Int) + (m : Int)) = False := eq_false (by omega)
 have H40 := Lib.hid ((H.out.belw q2).of40 HV.out)
 have HR2 := Lib.hid ((rdA40 HR.out (by omega) (by omega)).belw q2)
 go_wp2_with fail
 (refine (f_valid w2 b' A' n' c' D m e' r 40 HR2.out (by decide)).mono ?_); rintro e1 w3 ⟨rfl, hb3⟩
 have q3 := q2.trans (hb3.mono q2.size)
 have x3 := x2.below hb3 x2.lt
 have y3 := y2.below hb3 y2.lt
 have hl3 : w.heap.size < w3.heap.size := x3.lt
 have hm3 : w.heap.size + 1 < w3.heap.size := y3.lt
 have H3 := Lib.hid (H40.out.belw hb3)
 have HR3 := Lib.hid (HR2.out.belw hb3)
 clear hb3 x2 y2 q2 d0 d1 d2 H40 HR2
 obtain ⟨rk, hrk⟩ : ∃ k, r.ok = k := ⟨_, rfl⟩
 rw [hrk]
 have HRK := Lib.hid hrk
 clear hrk
 cases rk
 ·have q6 := q3
  have x6 := x3
  have H6 := H3
  clear q3 x3 H3 y3 HR3 HRK
  obtain ⟨c0, c1, c2, c3⟩ := x6.c4
  go_wp2_with fail
  (with_reducible refine (p_lk w3 A n c B p d C q e L H6.out (HTab.out.belw q6)).mono ?_); rintro e1 w7 ⟨rfl, hb7⟩
  have q7 := q6.trans (hb7.mono q6.size)
  have x7 := x6.below hb7 x6.lt
  have hl7 : w.heap.size < w7.heap.size := x7.lt
  have H7 := Lib.hid (H6.out.belw hb7)
  have HTb := Lib.hid (HTab.out.belw q7)
  have HMx := Lib.hid (HM.out.belw q7)
  clear c0 c1 c2 c3 hb7 x6 H6 q6
  by_cases hE : outErr L = 0
  rotate_left
  ·rw [eVp hE]
   clear hE
   go_wp2_with fail
   go_ret
   exact ⟨rfl, q7⟩
  obtain ⟨k1, k2⟩ := out_ok hE
  have hLong : longL L.bodies ≠ true := by
   intro hh
   unfold outErr at hE
   rw [if_neg (by rw [k1]; simp), if_pos (.inl hh)] at hE
   cases hE
  rw [hE, errV_0]
  have hF := lkErr_full k1
  have HF := Lib.hid hF
  have HLN := Lib.hid hLong
  have hn8 := hF.ok.nb
  rw [H.out.bodies.1] at hn8
  have HW := Lib.hid H.out.words
  clear hE k1 k2 hLong hF H
  obtain ⟨c0, c1, c2, c3⟩ := x7.c4
  go_wp2_with fail
  clear c0 c1 c2 c3
  go_loopw [9] (fun iv wr => ∃ i : Nat, iv = .int .i64 (i : Nat) ∧ i ≤ n ∧ Below w7.heap.size w7 wr) (fun iv _ => n - (intOf iv).toNat)
  case atStart => exact ⟨0, rfl, Nat.zero_le _, brefl w7⟩
  case round =>
   obtain ⟨i, rfl, hi, hb⟩ := hrel
   have x8 := x7.below hb hl7
   have hl8 : w.heap.size < wr.heap.size := x8.lt
   have q8 := q7.trans (hb.mono q7.size)
   have c1 := x8.cell 1
   rcases Nat.lt_or_ge i n with hlt | hge
   rotate_left
   ·have hi1 : ((i : Int) < (n : Int)) = False := by simp; omega
    go_wp2_with fail
    go_ret
    exact ⟨rfl, q8⟩
   have hi1 : ((i : Int) < (n : Int)) = True := by simp; omega
   obtain ⟨g, o, bd, e1, hg, hnc, hbi, hBD⟩ := (H7.out.belw hb).bodies.at_ hlt
   subst e1
   obtain ⟨A1, n1, c1', d0, d1, hM, hNm⟩ := hBD
   have hmem := List.mem_of_getElem? hbi
   have hbf := HF.out.body bd hmem
   have hbo := HF.out.ok.body bd hmem
   have hn1 : n1 ≤ 8 := by rw [← hM.1]; exact hbo.2.1
   have hmn : ∀ x ∈ bd.pts, x.name.length ≤ 1000 := fun x hx => by
    have h9 := (hbf.pts x hx).name
    have := nameOk_le h9
    omega
   have hle : (bodyText bd).length ≤ 65536 := by
    have h9 := bodyText_len hbo.1 hbo.2.1 (hM.short hmn)
    unfold lineText at h9
    rw [List.length_append] at h9
    omega
   have hbr := body_read hbf (HW.out bd hmem) (long_not HLN.out bd hmem) hle
   have hnl := hbo.1
   obtain ⟨T, hT⟩ : ∃ T, bodyText bd = T := ⟨_, rfl⟩
   rw [hT] at hbr
   have HT := Lib.hid hT
   have HBR := Lib.hid hbr
   have HMM := Lib.hid hM
   have HMN := Lib.hid hmn
   have hgn : g < wr.heap.size := hg
   clear hbi hmem hbf hbo hmn hle hT hbr hM
   go_wp2_with fail
   (refine (p_body wr A1 n1 c1' bd HMM.out (HTb.out.belw hb) (by omega) (by omega) HMN.out T HT.out).mono ?_); rintro e1 w9 ⟨rfl, hb9⟩
   have q9 := q8.trans (hb9.mono q8.size)
   have hb79 := hb.trans (hb9.mono hb.size)
   go_wp2_with fail
   (refine (ps_body w9 T 0 bd (HMx.out.belw hb79) HBR.out).mono ?_); rintro e1 w10 ⟨A3, n3, c3, rfl, hM3, hN3, hb10⟩
   rw [errV_0]
   have q10 := q9.trans (hb10.mono q9.size)
   have hb710 := hb79.trans (hb10.mono hb79.size)
   have hbr10 := hb9.trans (hb10.mono hb9.size)
   clear c1
   go_wp2_with fail
   have hq := (brefl w10).alloc (Nat.le_refl _) (.cells #[strV bd.name, .slice A3 n3 c3] 56)
   have zq := Blk.new w10 56 #[strV bd.name, .slice A3 n3 c3]
   have q11 := q10.trans (hq.mono q10.size)
   have hb711 := hb710.trans (hq.mono hb710.size)
   have hbr11 := hbr10.trans (hq.mono hbr10.size)
   have x11 := x8.below hbr11 hl8
   have HM3 := Lib.hid ((hM3.belw (fun _ _ _ h => h.belw hq) hq).mkM)
   have HM4 := Lib.hid ((HMM.out.mk_ hbr11).mkM)
   have e0 := (hbr11.cell (p := ⟨g, o + i * 2, none⟩) hgn).trans d0
   have e1 := (hbr11.cell (p := ⟨g, o + i * 2 + 1, none⟩) hgn).trans d1
   change World.cell? _ ⟨g, o + i * 2, none⟩ = _ at e0
   change World.cell? _ ⟨g, o + i * 2 + 1, none⟩ = _ at e1
   generalize (w10.alloc (.cells #[strV bd.name, .slice A3 n3 c3] 56)) = w11 at q11 hb711 x11 zq HM3 HM4 e0 e1 ⊢
   have hn3 : n3 ≤ 1000 := by rw [← HM3.out.1, HM4.out.1]; omega
   clear hq hM3 hb710 hbr10 hbr11 q10 q9 hb9 hb10 hb79 d0 d1 x8
   have hgn2 : g < w11.heap.size := World.block_lt_of_cell? w11 _ e0
   change Code.wp _ _ _ (frA _ _ _ _ _ _ _ _ _ _ _ _ _ _ _ _ _ _ _ _ _ _ _ _ _ _ _ _ _ _ _ _ _ _ _ _ _ _ _ _ _ _ _ _ _ _ _ _ _ _ _ _ _ _ _ _ _ _ _ _ _ _ _ _ _ _ _ _ _ _ _ _ _ _ _ _ _ _ (upd (upd (upd (upd (upd (upd (upd (upd (upd (upd (upd (upd (fun _ => undef) 0 _) 1 _) 2 _) 3 _) 4 _) 5 _) 6 _) 7 _) 8 _) 9 _) 10 _) 11 _)) _
   refine wp_region_grow (R := fun ri => List.getD (PEq .nilIface :: PEq (.bool false) :: PEq (.bool false) :: PEq (.agg #[strV bd.name, .slice A3 n3 c3]) :: PEq (.pointer (some ⟨w.heap.size, 1, none⟩)) :: PEq (.slice (some ⟨g, o, none⟩) n c) :: PEq (.int .i64 (i : Nat)) :: PEq (.pointer (some ⟨g, o + i * 2, none⟩)) :: PEq (.agg #[strV bd.name, .slice A1 n1 c1']) :: PEq (.bool true) :: PEq (.bool false) :: PEq (.bool false) :: []) ri (fun _ _ => True)) (by kernel_rfl) (each_of ⟨fun _ _ => rfl, fun _ _ => rfl, fun _ _ => rfl, fun _ _ => rfl, fun _ _ => rfl, fun _ _ => rfl, fun _ _ => rfl, fun _ _ => rfl, fun _ _ => rfl, fun _ _ => rfl, fun _ _ => rfl, fun _ _ => rfl, trivial⟩) (each_of (acyc_from _ 0 (by kernel_rfl))) (AllGrw.get _ ⟨gEq _, gEq _, gEq _, gEq _, gEq _, gEq _, gEq _, gEq _, gEq _, gEq _, gEq _, gEq _, trivial⟩) (each_of ⟨?_, ?_, ?_, ?_, ?_, ?_, ?_, ?_, ?_, ?_, ?_, ?_, trivial⟩) ?_
   ·exact fun xf wq hb hd K hK => by
     (try dsimp only [frA])
     go_simp
     have hz := hK.out .nilIface _ rfl (brefl _)
     dsimp only [frA] at hz
     exact hz
   ·exact fun xf wq hb hd K hK => by
     have dq0 : xf 0 = .nilIface := hd ⟨0, .data⟩ (by simp) rfl
     (try dsimp only [frA]); (try simp only [dq0])
     go_simp
     have hz := hK.out (.bool false) _ rfl (brefl _)
     dsimp only [frA] at hz
     simp only [dq0] at hz
     exact hz
   ·exact fun xf wq hb hd K hK => by
     have dq1 : xf 1 = (.bool false) := hd ⟨1, .data⟩ (by simp) rfl
     (try dsimp only [frA]); (try simp only [dq1])
     go_simp
     have hz := hK.out (.bool false) _ rfl (brefl _)
     dsimp only [frA] at hz
     simp only [dq1] at hz
     exact hz
   ·exact fun xf wq hb hd K hK => by
     have dq2 : xf 2 = (.bool false) := hd ⟨2, .guard⟩ (by simp) rfl
     have hc0 := (zq.below hb zq.lt).cell 0
     have hc1 := (zq.below hb zq.lt).cell 1
     (try dsimp only [frA]); (try simp only [dq2])
     go_simp
     have hz := hK.out (.agg #[strV bd.name, .slice A3 n3 c3]) _ rfl (brefl _)
     dsimp only [frA] at hz
     simp only [dq2] at hz
     exact hz
   ·exact fun xf wq hb hd K hK => by
     have dq2 : xf 2 = (.bool false) := hd ⟨2, .guard⟩ (by simp) rfl
     (try dsimp only [frA]); (try simp only [dq2])
     go_simp
     have hz := hK.out (.pointer (some ⟨w.heap.size, 1, none⟩)) _ rfl (brefl _)
     dsimp only [frA] at hz
     simp only [dq2] at hz
     exact hz
   ·exact fun xf wq hb hd K hK => by
     have dq4 : xf 4 = (.pointer (some ⟨w.heap.size, 1, none⟩)) := hd ⟨4, .data⟩ (by simp) rfl
     have dq2 : xf 2 = (.bool false) := hd ⟨2, .guard⟩ (by simp) rfl
     have hc1 := (x11.below hb x11.lt).cell 1
     (try dsimp only [frA]); (try simp only [dq4, dq2])
     go_simp
     have hz := hK.out (.slice (some ⟨g, o, none⟩) n c) _ rfl (brefl _)
     dsimp only [frA] at hz
     simp only [dq4, dq2] at hz
     exact hz
   ·exact fun xf wq hb hd K hK => by
     have dq2 : xf 2 = (.bool false) := hd ⟨2, .guard⟩ (by simp) rfl
     (try dsimp only [frA]); (try simp only [dq2])
     go_simp
     have hz := hK.out (.int .i64 (i : Nat)) _ rfl (brefl _)
     dsimp only [frA] at hz
     simp only [dq2] at hz
     exact hz
   ·exact fun xf wq hb hd K hK => by
     have dq5 : xf 5 = (.slice (some ⟨g, o, none⟩) n c) := hd ⟨5, .data⟩ (by simp) rfl
     have dq6 : xf 6 = (.int .i64 (i : Nat)) := hd ⟨6, .data⟩ (by simp) rfl
     have dq2 : xf 2 = (.bool false) := hd ⟨2, .guard⟩ (by simp) rfl
     have hlt2 : ((i : Int) < (n : Int)) := by omega
     (try dsimp only [frA]); (try simp only [dq5, dq6, dq2])
     go_simp
     have hz := hK.out (.pointer (some ⟨g, o + i * 2, none⟩)) _ rfl (brefl _)
     dsimp only [frA] at hz
     simp only [dq5, dq6, dq2] at hz
     exact hz
   ·exact fun xf wq hb hd K hK => by
     have dq7 : xf 7 = (.pointer (some ⟨g, o + i * 2, none⟩)) := hd ⟨7, .data⟩ (by simp) rfl
     have dq2 : xf 2 = (.bool false) := hd ⟨2, .guard⟩ (by simp) rfl
     have hc0 := (hb.cell (p := ⟨g, o + i * 2, none⟩) hgn2).trans e0
     have hc1 := (hb.cell (p := ⟨g, o + i * 2 + 1, none⟩) hgn2).trans e1
     change World.cell? _ ⟨g, o + i * 2, none⟩ = _ at hc0
     change World.cell? _ ⟨g, o + i * 2 + 1, none⟩ = _ at hc1
     (try dsimp only [frA]); (try simp only [dq7, dq2])
     go_simp
     have hz := hK.out (.agg #[strV bd.name, .slice A1 n1 c1']) _ rfl (brefl _)
     dsimp only [frA] at hz
     simp only [dq7, dq2] at hz
     exact hz
   ·exact fun xf wq hb hd K hK => by
     have dq3 : xf 3 = (.agg #[strV bd.name, .slice A3 n3 c3]) := hd ⟨3, .data⟩ (by simp) rfl
     have dq8 : xf 8 = (.agg #[strV bd.name, .slice A1 n1 c1']) := hd ⟨8, .data⟩ (by simp) rfl
     have dq2 : xf 2 = (.bool false) := hd ⟨2, .guard⟩ (by simp) rfl
     (try dsimp only [frA]); (try simp only [dq3, dq8, dq2])
     go_simp
     go_at_call 29
     (refine (b_body_d _ A3 n3 c3 bd (HM3.out.mk_ hb) A1 n1 c1' bd (HM4.out.mk_ hb) hn3 true (by simp)).mono ?_); rintro e1 wr ⟨rfl, hbr⟩
     have hz := hK.out (.bool true) _ rfl hbr
     dsimp only [frA] at hz
     simp only [dq3, dq8, dq2] at hz
     exact hz
   ·exact fun xf wq hb hd K hK => by
     have dq9 : xf 9 = (.bool true) := hd ⟨9, .data⟩ (by simp) rfl
     have dq2 : xf 2 = (.bool false) := hd ⟨2, .guard⟩ (by simp) rfl
     (try dsimp only [frA]); (try simp only [dq9, dq2])
     go_simp
     have hz := hK.out (.bool false) _ rfl (brefl _)
     dsimp only [frA] at hz
     simp only [dq9, dq2] at hz
     exact hz
   ·exact fun xf wq hb hd K hK => by
     have dq2 : xf 2 = (.bool false) := hd ⟨2, .data⟩ (by simp) rfl
     have dq10 : xf 10 = (.bool false) := hd ⟨10, .data⟩ (by simp) rfl
     (try dsimp only [frA]); (try simp only [dq2, dq10])
     go_simp
     have hz := hK.out (.bool false) _ rfl (brefl _)
     dsimp only [frA] at hz
     simp only [dq2, dq10] at hz
     exact hz
   ·intro xf wq hb hr
    have dq11 : xf 11 = .bool false := hr 11 (by decide)
    dsimp only [frA]
    simp only [dq11]
    have hbe := hb711.trans (hb.mono hb711.size)
    go_wp2_with fail
    go_roundw
    case rel => exact ⟨i + 1, by go_num, by omega, hbe⟩
    case measure => simp [intOf]; omega
 ·have d0 := y3.cell 0
  have d1 := y3.cell 1
  have d2 := y3.cell 2
  obtain ⟨T, hT⟩ : ∃ T, ratText r.q = T := ⟨_, rfl⟩
  have hlen : (ratText r.q).length ≤ 65536 := by
   have := ratText_le (QD.sz HR3.out (by decide)) (Nat.le_refl 40)
   omega
  have hfo := fun w hm => f_parse_rt w r.q hm hlen
  rw [hT] at hfo
  have HT := Lib.hid hT
  have HFO := Lib.hid hfo
  clear hT hlen hfo
  go_wp2_with fail
  (refine (p_number w3 b' A' n' c' D m e' r 40 HR3.out (by decide) (by decide) (HTab.out.belw q3) T HT.out).mono ?_); rintro e1 w4 ⟨rfl, hb4⟩
  have q4 := q3.trans (hb4.mono q3.size)
  have hb34 := hb4
  go_wp2_with fail
  (refine (HFO.out w4 (HM.out.belw q4)).mono ?_); rintro e1 w5 ⟨b2, A2, n2, c2', A3, n3, c3', rfl, hq5, hb5⟩
  have q5 := q4.trans (hb5.mono q4.size)
  have hb35 := hb4.trans (hb5.mono hb4.size)
  have x5 := x3.below hb35 x3.lt
  have y5 := y3.below hb35 y3.lt
  have hl5 : w.heap.size < w5.heap.size := x5.lt
  have hm5 : w.heap.size + 1 < w5.heap.size := y5.lt
  have hne5 : ¬ w.heap.size + 1 = w5.heap.size := by omega
  have H5 := Lib.hid (H3.out.belw hb35)
  have HR5 := Lib.hid (HR3.out.belw hb35)
  have hqr := QV.asD hq5 HR3.out HRK.out
  have HQR := Lib.hid hqr
  clear d0 d1 d2 hb4 hb5 hb34 hb35 x3 y3 q3 q4 H3 HR3 hq5 hqr
  have d0 := y5.cell 0
  have d1 := y5.cell 1
  have d2 := y5.cell 2
  go_wp2_with fail
  have hq := (brefl w5).alloc (Nat.le_refl _) (.cells #[.bool b2, .slice A2 n2 c2', .slice A3 n3 c3'] 72)
  (refine (b_rat_eq _ b' A' n' c' D m e' b2 A2 n2 c2' A3 n3 c3' r 40 65536 (HR5.out.belw hq) (HQR.out.belw hq) (by decide)).mono ?_); rintro e1 w6 ⟨rfl, hb6⟩
  have hq6 := hq.trans (hb6.mono hq.size)
  have q6 := q5.trans (hq6.mono q5.size)
  have x6 := x5.below hq6 x5.lt
  have H6 := Lib.hid (H5.out.belw hq6)
  clear d0 d1 d2 hq hb6 hq6 x5 y5 q5 H5 HR5 HQR
  obtain ⟨c0, c1, c2, c3⟩ := x6.c4
  go_wp2_with fail
  (with_reducible refine (p_lk w6 A n c B p d C q e L H6.out (HTab.out.belw q6)).mono ?_); rintro e1 w7 ⟨rfl, hb7⟩
  have q7 := q6.trans (hb7.mono q6.size)
  have x7 := x6.below hb7 x6.lt
  have hl7 : w.heap.size < w7.heap.size := x7.lt
  have H7 := Lib.hid (H6.out.belw hb7)
  have HTb := Lib.hid (HTab.out.belw q7)
  have HMx := Lib.hid (HM.out.belw q7)
  clear c0 c1 c2 c3 hb7 x6 H6 q6
  by_cases hE : outErr L = 0
  rotate_left
  ·rw [eVp hE]
   clear hE
   go_wp2_with fail
   go_ret
   exact ⟨rfl, q7⟩
  obtain ⟨k1, k2⟩ := out_ok hE
  have hLong : longL L.bodies ≠ true := by
   intro hh
   unfold outErr at hE
   rw [if_neg (by rw [k1]; simp), if_pos (.inl hh)] at hE
   cases hE
  rw [hE, errV_0]
  have hF := lkErr_full k1
  have HF := Lib.hid hF
  have HLN := Lib.hid hLong
  have hn8 := hF.ok.nb
  rw [H.out.bodies.1] at hn8
  have HW := Lib.hid H.out.words
  clear hE k1 k2 hLong hF H
  obtain ⟨c0, c1, c2, c3⟩ := x7.c4
  go_wp2_with fail
  clear c0 c1 c2 c3
  go_loopw [9] (fun iv wr => ∃ i : Nat, iv = .int .i64 (i : Nat) ∧ i ≤ n ∧ Below w7.heap.size w7 wr) (fun iv _ => n - (intOf iv).toNat)
  case atStart => exact ⟨0, rfl, Nat.zero_le _, brefl w7⟩
  case round =>
   obtain ⟨i, rfl, hi, hb⟩ := hrel
   have x8 := x7.below hb hl7
   have hl8 : w.heap.size < wr.heap.size := x8.lt
   have q8 := q7.trans (hb.mono q7.size)
   have c1 := x8.cell 1
   rcases Nat.lt_or_ge i n with hlt | hge
   rotate_left
   ·have hi1 : ((i : Int) < (n : Int)) = False := by simp; omega
    go_wp2_with fail
    go_ret
    exact ⟨rfl, q8⟩
   have hi1 : ((i : Int) < (n : Int)) = True := by simp; omega
   obtain ⟨g, o, bd, e1, hg, hnc, hbi, hBD⟩ := (H7.out.belw hb).bodies.at_ hlt
   subst e1
   obtain ⟨A1, n1, c1', d0, d1, hM, hNm⟩ := hBD
   have hmem := List.mem_of_getElem? hbi
   have hbf := HF.out.body bd hmem
   have hbo := HF.out.ok.body bd hmem
   have hn1 : n1 ≤ 8 := by rw [← hM.1]; exact hbo.2.1
   have hmn : ∀ x ∈ bd.pts, x.name.length ≤ 1000 := fun x hx => by
    have h9 := (hbf.pts x hx).name
    have := nameOk_le h9
    omega
   have hle : (bodyText bd).length ≤ 65536 := by
    have h9 := bodyText_len hbo.1 hbo.2.1 (hM.short hmn)
    unfold lineText at h9
    rw [List.length_append] at h9
    omega
   have hbr := body_read hbf (HW.out bd hmem) (long_not HLN.out bd hmem) hle
   have hnl := hbo.1
   obtain ⟨T, hT⟩ : ∃ T, bodyText bd = T := ⟨_, rfl⟩
   rw [hT] at hbr
   have HT := Lib.hid hT
   have HBR := Lib.hid hbr
   have HMM := Lib.hid hM
   have HMN := Lib.hid hmn
   have hgn : g < wr.heap.size := hg
   clear hbi hmem hbf hbo hmn hle hT hbr hM
   go_wp2_with fail
   (refine (p_body wr A1 n1 c1' bd HMM.out (HTb.out.belw hb) (by omega) (by omega) HMN.out T HT.out).mono ?_); rintro e1 w9 ⟨rfl, hb9⟩
   have q9 := q8.trans (hb9.mono q8.size)
   have hb79 := hb.trans (hb9.mono hb.size)
   go_wp2_with fail
   (refine (ps_body w9 T 0 bd (HMx.out.belw hb79) HBR.out).mono ?_); rintro e1 w10 ⟨A3, n3, c3, rfl, hM3, hN3, hb10⟩
   rw [errV_0]
   have q10 := q9.trans (hb10.mono q9.size)
   have hb710 := hb79.trans (hb10.mono hb79.size)
   have hbr10 := hb9.trans (hb10.mono hb9.size)
   clear c1
   go_wp2_with fail
   have hq := (brefl w10).alloc (Nat.le_refl _) (.cells #[strV bd.name, .slice A3 n3 c3] 56)
   have zq := Blk.new w10 56 #[strV bd.name, .slice A3 n3 c3]
   have q11 := q10.trans (hq.mono q10.size)
   have hb711 := hb710.trans (hq.mono hb710.size)
   have hbr11 := hbr10.trans (hq.mono hbr10.size)
   have x11 := x8.below hbr11 hl8
   have HM3 := Lib.hid ((hM3.belw (fun _ _ _ h => h.belw hq) hq).mkM)
   have HM4 := Lib.hid ((HMM.out.mk_ hbr11).mkM)
   have e0 := (hbr11.cell (p := ⟨g, o + i * 2, none⟩) hgn).trans d0
   have e1 := (hbr11.cell (p := ⟨g, o + i * 2 + 1, none⟩) hgn).trans d1
   change World.cell? _ ⟨g, o + i * 2, none⟩ = _ at e0
   change World.cell? _ ⟨g, o + i * 2 + 1, none⟩ = _ at e1
   generalize (w10.alloc (.cells #[strV bd.name, .slice A3 n3 c3] 56)) = w11 at q11 hb711 x11 zq HM3 HM4 e0 e1 ⊢
   have hn3 : n3 ≤ 1000 := by rw [← HM3.out.1, HM4.out.1]; omega
   clear hq hM3 hb710 hbr10 hbr11 q10 q9 hb9 hb10 hb79 d0 d1 x8
   have hgn2 : g < w11.heap.size := World.block_lt_of_cell? w11 _ e0
   change Code.wp _ _ _ (frA _ _ _ _ _ _ _ _ _ _ _ _ _ _ _ _ _ _ _ _ _ _ _ _ _ _ _ _ _ _ _ _ _ _ _ _ _ _ _ _ _ _ _ _ _ _ _ _ _ _ _ _ _ _ _ _ _ _ _ _ _ _ _ _ _ _ _ _ _ _ _ _ _ _ _ _ _ _ (upd (upd (upd (upd (upd (upd (upd (upd (upd (upd (upd (upd (fun _ => undef) 0 _) 1 _) 2 _) 3 _) 4 _) 5 _) 6 _) 7 _) 8 _) 9 _) 10 _) 11 _)) _
   refine wp_region_grow (R := fun ri => List.getD (PEq .nilIface :: PEq (.bool false) :: PEq (.bool false) :: PEq (.agg #[strV bd.name, .slice A3 n3 c3]) :: PEq (.pointer (some ⟨w.heap.size, 1, none⟩)) :: PEq (.slice (some ⟨g, o, none⟩) n c) :: PEq (.int .i64 (i : Nat)) :: PEq (.pointer (some ⟨g, o + i * 2, none⟩)) :: PEq (.agg #[strV bd.name, .slice A1 n1 c1']) :: PEq (.bool true) :: PEq (.bool false) :: PEq (.bool false) :: []) ri (fun _ _ => True)) (by kernel_rfl) (each_of ⟨fun _ _ => rfl, fun _ _ => rfl, fun _ _ => rfl, fun _ _ => rfl, fun _ _ => rfl, fun _ _ => rfl, fun _ _ => rfl, fun _ _ => rfl, fun _ _ => rfl, fun _ _ => rfl, fun _ _ => rfl, fun _ _ => rfl, trivial⟩) (each_of (acyc_from _ 0 (by kernel_rfl))) (AllGrw.get _ ⟨gEq _, gEq _, gEq _, gEq _, gEq _, gEq _, gEq _, gEq _, gEq _, gEq _, gEq _, gEq _, trivial⟩) (each_of ⟨?_, ?_, ?_, ?_, ?_, ?_, ?_, ?_, ?_, ?_, ?_, ?_, trivial⟩) ?_
   ·exact fun xf wq hb hd K hK => by
     (try dsimp only [frA])
     go_simp
     have hz := hK.out .nilIface _ rfl (brefl _)
     dsimp only [frA] at hz
     exact hz
   ·exact fun xf wq hb hd K hK => by
     have dq0 : xf 0 = .nilIface := hd ⟨0, .data⟩ (by simp) rfl
     (try dsimp only [frA]); (try simp only [dq0])
     go_simp
     have hz := hK.out (.bool false) _ rfl (brefl _)
     dsimp only [frA] at hz
     simp only [dq0] at hz
     exact hz
   ·exact fun xf wq hb hd K hK => by
     have dq1 : xf 1 = (.bool false) := hd ⟨1, .data⟩ (by simp) rfl
     (try dsimp only [frA]); (try simp only [dq1])
     go_simp
     have hz := hK.out (.bool false) _ rfl (brefl _)
     dsimp only [frA] at hz
     simp only [dq1] at hz
     exact hz
   ·exact fun xf wq hb hd K hK => by
     have dq2 : xf 2 = (.bool false) := hd ⟨2, .guard⟩ (by simp) rfl
     have hc0 := (zq.below hb zq.lt).cell 0
     have hc1 := (zq.below hb zq.lt).cell 1
     (try dsimp only [frA]); (try simp only [dq2])
     go_simp
     have hz := hK.out (.agg #[strV bd.name, .slice A3 n3 c3]) _ rfl (brefl _)
     dsimp only [frA] at hz
     simp only [dq2] at hz
     exact hz
   ·exact fun xf wq hb hd K hK => by
     have dq2 : xf 2 = (.bool false) := hd ⟨2, .guard⟩ (by simp) rfl
     (try dsimp only [frA]); (try simp only [dq2])
     go_simp
     have hz := hK.out (.pointer (some ⟨w.heap.size, 1, none⟩)) _ rfl (brefl _)
     dsimp only [frA] at hz
     simp only [dq2] at hz
     exact hz
   ·exact fun xf wq hb hd K hK => by
     have dq4 : xf 4 = (.pointer (some ⟨w.heap.size, 1, none⟩)) := hd ⟨4, .data⟩ (by simp) rfl
     have dq2 : xf 2 = (.bool false) := hd ⟨2, .guard⟩ (by simp) rfl
     have hc1 := (x11.below hb x11.lt).cell 1
     (try dsimp only [frA]); (try simp only [dq4, dq2])
     go_simp
     have hz := hK.out (.slice (some ⟨g, o, none⟩) n c) _ rfl (brefl _)
     dsimp only [frA] at hz
     simp only [dq4, dq2] at hz
     exact hz
   ·exact fun xf wq hb hd K hK => by
     have dq2 : xf 2 = (.bool false) := hd ⟨2, .guard⟩ (by simp) rfl
     (try dsimp only [frA]); (try simp only [dq2])
     go_simp
     have hz := hK.out (.int .i64 (i : Nat)) _ rfl (brefl _)
     dsimp only [frA] at hz
     simp only [dq2] at hz
     exact hz
   ·exact fun xf wq hb hd K hK => by
     have dq5 : xf 5 = (.slice (some ⟨g, o, none⟩) n c) := hd ⟨5, .data⟩ (by simp) rfl
     have dq6 : xf 6 = (.int .i64 (i : Nat)) := hd ⟨6, .data⟩ (by simp) rfl
     have dq2 : xf 2 = (.bool false) := hd ⟨2, .guard⟩ (by simp) rfl
     have hlt2 : ((i : Int) < (n : Int)) := by omega
     (try dsimp only [frA]); (try simp only [dq5, dq6, dq2])
     go_simp
     have hz := hK.out (.pointer (some ⟨g, o + i * 2, none⟩)) _ rfl (brefl _)
     dsimp only [frA] at hz
     simp only [dq5, dq6, dq2] at hz
     exact hz
   ·exact fun xf wq hb hd K hK => by
     have dq7 : xf 7 = (.pointer (some ⟨g, o + i * 2, none⟩)) := hd ⟨7, .data⟩ (by simp) rfl
     have dq2 : xf 2 = (.bool false) := hd ⟨2, .guard⟩ (by simp) rfl
     have hc0 := (hb.cell (p := ⟨g, o + i * 2, none⟩) hgn2).trans e0
     have hc1 := (hb.cell (p := ⟨g, o + i * 2 + 1, none⟩) hgn2).trans e1
     change World.cell? _ ⟨g, o + i * 2, none⟩ = _ at hc0
     change World.cell? _ ⟨g, o + i * 2 + 1, none⟩ = _ at hc1
     (try dsimp only [frA]); (try simp only [dq7, dq2])
     go_simp
     have hz := hK.out (.agg #[strV bd.name, .slice A1 n1 c1']) _ rfl (brefl _)
     dsimp only [frA] at hz
     simp only [dq7, dq2] at hz
     exact hz
   ·exact fun xf wq hb hd K hK => by
     have dq3 : xf 3 = (.agg #[strV bd.name, .slice A3 n3 c3]) := hd ⟨3, .data⟩ (by simp) rfl
     have dq8 : xf 8 = (.agg #[strV bd.name, .slice A1 n1 c1']) := hd ⟨8, .data⟩ (by simp) rfl
     have dq2 : xf 2 = (.bool false) := hd ⟨2, .guard⟩ (by simp) rfl
     (try dsimp only [frA]); (try simp only [dq3, dq8, dq2])
     go_simp
     go_at_call 29
     (refine (b_body_d _ A3 n3 c3 bd (HM3.out.mk_ hb) A1 n1 c1' bd (HM4.out.mk_ hb) hn3 true (by simp)).mono ?_); rintro e1 wr ⟨rfl, hbr⟩
     have hz := hK.out (.bool true) _ rfl hbr
     dsimp only [frA] at hz
     simp only [dq3, dq8, dq2] at hz
     exact hz
   ·exact fun xf wq hb hd K hK => by
     have dq9 : xf 9 = (.bool true) := hd ⟨9, .data⟩ (by simp) rfl
     have dq2 : xf 2 = (.bool false) := hd ⟨2, .guard⟩ (by simp) rfl
     (try dsimp only [frA]); (try simp only [dq9, dq2])
     go_simp
     have hz := hK.out (.bool false) _ rfl (brefl _)
     dsimp only [frA] at hz
     simp only [dq9, dq2] at hz
     exact hz
   ·exact fun xf wq hb hd K hK => by
     have dq2 : xf 2 = (.bool false) := hd ⟨2, .data⟩ (by simp) rfl
     have dq10 : xf 10 = (.bool false) := hd ⟨10, .data⟩ (by simp) rfl
     (try dsimp only [frA]); (try simp only [dq2, dq10])
     go_simp
     have hz := hK.out (.bool false) _ rfl (brefl _)
     dsimp only [frA] at hz
     simp only [dq2, dq10] at hz
     exact hz
   ·intro xf wq hb hr
    have dq11 : xf 11 = .bool false := hr 11 (by decide)
    dsimp only [frA]
    simp only [dq11]
    have hbe := hb711.trans (hb.mono hb711.size)
    go_wp2_with fail
    go_roundw
    case rel => exact ⟨i + 1, by go_num, by omega, hbe⟩
    case measure => simp [intOf]; omega
end Go.Proofs.YtoiijifnfdgfpaaGreatDoor

/- The arguments of a row opened: integers, fractions and turns that came in. -/
namespace Go.Proofs.YtoiijifnfdgfpaaGreatDoor
open Go Go.RowKit Bn Go.ChangeShapes Go.WideShapes
attribute [local go_sem ↓] Go.wp_at_zero Go.wp_at_succ

theorem args_again {H : Type} {enc : TypeId × Value → H} {W : World} {P : Program} (hl : laidOutB P = true) {W' : World} (hb : Below W.heap.size W W') : ∀ {ts : List TypeId} {vs : List Value} {ds : List (DataW H)} {ps : List MemPlace}, (ts.all fun t => P.readableRec t && decide (t < P.types.size)) = true →
    DataW.TrodAll enc P W 0 (fun _ => true) true ts vs ds ps → DataW.TrodAll enc P W' 0 (fun b => decide (b < W.heap.size)) true ts vs ds ps
  | [], [], [], _, _, h => h
  | _ :: _, _ :: _, _ :: _, _, hr, h => by
    have hlt := h.lt
    obtain ⟨p, q, h1, h2, e⟩ := h
    rw [List.all_cons, Bool.and_eq_true, Bool.and_eq_true, decide_eq_true_eq] at hr
    exact ⟨p, q, Below.trod hl hr.1.1 hr.1.2 h1 hb (fun x hx => hlt x (by rw [e]; exact List.mem_append_left _ hx)), args_again hl hb hr.2 h2, e⟩
  | [], [], _ :: _, _, _, h => h.elim
  | [], _ :: _, _, _, _, h => h.elim
  | _ :: _, [], _, _, _, h => h.elim
  | _ :: _, _ :: _, [], _, _, h => h.elim
theorem law_post {H : Type} {enc : TypeId × Value → H} {W : World} {P : Program} {B : TypeId} {f : Func} {s : ChangeSpec} {W' : World} {args : Array Value} {ds : List (DataW H)} {before : List MemPlace} (hl : laidOutB P = true) (hB : P.underlying B = some .bool)
    (hW : DataW.Whole enc P f.params.toList s.vars false W args.toList ds [] before) (hv : s.vars = []) (hr : f.resultTypes = #[B]) (hp : (f.params.toList.all fun t => P.readableRec t && decide (t < P.types.size)) = true)
    (hres : (s.fn H (ds ++ [])).results = [.lit (.bool true)]) (hargs : (s.fn H (ds ++ [])).args = ds) (hvars : (s.fn H (ds ++ [])).vars = []) (hb : Below W.heap.size W W') :
    s.post enc P f false true false false W args (.bool true) W' := by
  have hW' := hW
  obtain ⟨p, q, hA, hV, rfl, _, _⟩ := hW
  have hV' := hV
  rw [hv] at hV'
  obtain ⟨_, rfl⟩ := trodVars_none hV'
  refine ⟨ds, [], _, [], p, [], hW', ?_, ?_, ?_, hb.frame _, fun h => by cases h⟩
  · rw [hr, hres]
    exact trodAll_mk1 (shut_bool hB _)
  · rw [hargs]
    exact args_again hl hb hp hA
  · rw [hv, hvars]
    rfl
theorem joined_parts {P : Program} {f : FuncId} {fn : Func} {s : ChangeSpec} {c : OpenClaim}
    (h1 : (c.wf (OpenSpec.ofChange s) && laidOutB P && mapsRowed P && fn.params.all (P.readableRec ·) && namedTie P c.named s.vars && (c.stops == []) && (P.stops == []) && (c.knobs == []) && (P.stopKnobs == [])) = true)
    (h2 : (c.inPlace == P.inPlace f) = true) (h3 : (c.unfollowed == P.unfollowed f) = true) (h4 : (c.recurses == P.recurses f) = true) (h5 : (c.named == P.varsNamed f) = true)
    (h6 : ((c.maps == (fn.params.toList ++ s.plain.varTypes P).any (P.mapsRec ·)) && (c.ifaces == (fn.params.toList ++ s.plain.varTypes P).any (P.ifacesRec ·)) && (c.mapsOut == P.mapsAmong fn.resultTypes.toList) &&
      (c.loops == (fn.params.toList ++ s.plain.varTypes P).any (P.loopsFrom ·)) && (c.wideKeys == (fn.params.toList ++ s.plain.varTypes P ++ fn.resultTypes.toList).any (P.wideKeysFrom ·)) &&
      s.vars.all (P.varReadable ·) && fn.resultTypes.all (fun t => P.readableRec t && decide (t < P.types.size)) && (c.ifacesOut == fn.resultTypes.toList.any (P.ifacesRec ·)) && (c.loopsOut == fn.resultTypes.toList.any (P.loopsFrom ·)) && (c.plainKeys == P.plainKeys) && c.shortTexts.isNone && P.stopsHeard && P.mayEnter && (c.lifted == P.liftsFinal) && (P.make == some c.make) && (c.kinds == (if c.domain.isEmpty then [] else fn.params.toList.map fun t => match P.underlying t with | some (.int k) => some k | _ => none)) && (c.pinned == c.pinnedBy) &&
      (c.veiled == (fn.params.toList ++ s.plain.varTypes P ++ fn.resultTypes.toList).any (P.veiledRec ·)) && c.veiledFits P fn.params.toList (fn.params.toList ++ s.plain.varTypes P ++ fn.resultTypes.toList)) = true) : joinedFacts P f fn s c = true := by
  unfold joinedFacts
  simp only [Bool.and_eq_true] at h1 h6 ⊢
  obtain ⟨⟨⟨⟨⟨⟨⟨⟨a0, a1⟩, a2⟩, a3⟩, a4⟩, a5⟩, a6⟩, a7⟩, a8⟩ := h1
  obtain ⟨⟨⟨⟨⟨⟨⟨⟨⟨⟨⟨⟨⟨⟨⟨⟨⟨⟨b0, b1⟩, b2⟩, b3⟩, b4⟩, b5⟩, b6⟩, b7⟩, b8⟩, b9⟩, b10⟩, b11⟩, b12⟩, b13⟩, b14⟩, b15⟩, b16⟩, b17⟩, b18⟩ := h6
  exact ⟨⟨⟨⟨⟨⟨⟨⟨⟨⟨⟨⟨⟨⟨⟨⟨⟨⟨⟨⟨⟨⟨⟨⟨⟨⟨⟨⟨⟨⟨⟨a0, a1⟩, a2⟩, a3⟩, a4⟩, a5⟩, a6⟩, a7⟩, a8⟩, h2⟩, h3⟩, h4⟩, h5⟩, b0⟩, b1⟩, b2⟩, b3⟩, b4⟩, b5⟩, b6⟩, b7⟩, b8⟩, b9⟩, b10⟩, b11⟩, b12⟩, b13⟩, b14⟩, b15⟩, b16⟩, b17⟩, b18⟩
section
variable {H : Type} {enc : TypeId × Value → H} {W : World} {base : Nat}
theorem cells_ok {t : TypeId} {fs : Array Field} {ts : List TypeId} {v : Value} (hu : Tryz.prog.underlying t = some (.struct fs)) (hts : Tryz.prog.cellTypes Tryz.prog.depth t = some ts) (hn : Tryz.prog.cellsOf t = ts.length) (h : Value.okWide Tryz.prog W .any base t v) :
    ∃ cs : Array Value, v = .agg cs ∧ cs.size = ts.length ∧ ∀ (i : Nat) (v : Value) (u : TypeId), cs[i]? = some v → ts[i]? = some u → Cell.okWide Tryz.prog W .any base u v := by
  unfold Value.okWide at h
  rw [hu] at h
  obtain ⟨cs, rfl, hsz, ts', hts', _, hc⟩ := h
  rw [hts] at hts'
  injection hts' with e
  subst e
  rw [hn] at hsz
  refine ⟨cs, rfl, hsz, fun i v u hi hu => ?_⟩
  obtain ⟨u', h1, h2⟩ := hc i v hi
  have hlt : i < ts.length := by rw [← hsz]; exact (Array.getElem?_eq_some_iff.1 hi).1
  rw [Nat.mod_eq_of_lt hlt, hu] at h1
  injection h1 with h1
  subst h1
  exact h2
end
theorem mx_of_shaped {W : World} (h : W.ShapedOpen Tryz.prog) : ∃ m, W.cell? ⟨0, 0, none⟩ = some (.int .i64 m) :=
  Go.Proofs.cell_of_shapedOpen_int (P := Tryz.prog) (g := 0) (t := 3) (zero := #[.int .i64 0]) h (of_decide_eq_true (by kernel_rfl)) (by kernel_rfl) rfl (by kernel_rfl) (by kernel_rfl) Tryz.underlying3
theorem g_pow : Tryz.prog.globalNamed "internal/strconv.uint64pow10" = some 1 := by kernel_rfl
theorem ty_pow : (Tryz.prog.globals[1]?).map (·.type) = some 241 := by kernel_rfl
theorem cells_pow : Tryz.prog.cellsOf 241 = 20 := by kernel_rfl
theorem cells_u64 : Tryz.prog.cellsOf 138 = 1 := by kernel_rfl
theorem pow_data {H : Type} : (Rows.laid_internal_strconv_uint64pow10 : DataW H) = Lib.tabData .u64 Lib.pow10Tab := by kernel_rfl
theorem tab_of_laid {rest : List (String × DataW Unit)} {W : World} (h : laidMet Tryz.prog (("math/bits.deBruijn32tab", Rows.laid_math_bits_deBruijn32tab) :: ("math/bits.deBruijn64tab", Rows.laid_math_bits_deBruijn64tab) :: ("internal/strconv.uint64pow10", Rows.laid_internal_strconv_uint64pow10) :: rest) W) : Tab W := by
  obtain ⟨ps, ⟨_, _, _, _, _, _, _, _, _, _, ⟨_, _, _, _, _, _, _, _, _, _, ⟨g, t, cs, f, p, q, hg, ht, hv, hd, _, _⟩, _⟩, _⟩, _, _⟩ := h
  obtain rfl := Option.some.inj (g_pow.symm.trans hg)
  obtain rfl := Option.some.inj (ty_pow.symm.trans ht)
  rw [pow_data] at hd
  unfold Tab Lib.TabIs
  rw [hv, ← Lib.cells_of_tab Tryz.underlying241 Tryz.underlying138 cells_u64 cells_pow hd]
noncomputable def low : Nat := (World.holding Tryz.prog default ⟨#[], #[], []⟩).heap.size
noncomputable def laidWorld (os : Os) : World :=
  let w0 := World.holding Tryz.prog os ⟨#[.cells #[.string ⟨#[118, 97, 108, 117, 101, 32, 111, 117, 116, 32, 111, 102, 32, 114, 97, 110, 103, 101]⟩] 263, .cells #[.string ⟨#[105, 110, 118, 97, 108, 105, 100, 32, 115, 121, 110, 116, 97, 120]⟩] 263], #[], []⟩
  { w0 with heap := (((((((w0.heap.modify 1 fun
      | .cells _ t frozen => .cells (#[.int .u64 1, .int .u64 10, .int .u64 100, .int .u64 1000, .int .u64 10000, .int .u64 100000, .int .u64 1000000, .int .u64 10000000, .int .u64 100000000, .int .u64 1000000000, .int .u64 10000000000, .int .u64 100000000000, .int .u64 1000000000000, .int .u64 10000000000000, .int .u64 100000000000000, .int .u64 1000000000000000, .int .u64 10000000000000000, .int .u64 100000000000000000, .int .u64 1000000000000000000, .int .u64 10000000000000000000]) t frozen
      | o => o).modify 6 fun
      | .cells _ t frozen => .cells (#[.int .u8 0, .int .u8 1, .int .u8 28, .int .u8 2, .int .u8 29, .int .u8 14, .int .u8 24, .int .u8 3, .int .u8 30, .int .u8 22, .int .u8 20, .int .u8 15, .int .u8 25, .int .u8 17, .int .u8 4, .int .u8 8, .int .u8 31, .int .u8 27, .int .u8 13, .int .u8 23, .int .u8 21, .int .u8 19, .int .u8 16, .int .u8 7, .int .u8 26, .int .u8 12, .int .u8 18, .int .u8 6, .int .u8 11, .int .u8 5, .int .u8 10, .int .u8 9]) t frozen
      | o => o).modify 7 fun
      | .cells _ t frozen => .cells (#[.int .u8 0, .int .u8 1, .int .u8 56, .int .u8 2, .int .u8 57, .int .u8 49, .int .u8 28, .int .u8 3, .int .u8 61, .int .u8 58, .int .u8 42, .int .u8 50, .int .u8 38, .int .u8 29, .int .u8 17, .int .u8 4, .int .u8 62, .int .u8 47, .int .u8 59, .int .u8 36, .int .u8 45, .int .u8 43, .int .u8 51, .int .u8 22, .int .u8 53, .int .u8 39, .int .u8 33, .int .u8 30, .int .u8 24, .int .u8 18, .int .u8 12, .int .u8 5, .int .u8 63, .int .u8 55, .int .u8 48, .int .u8 27, .int .u8 60, .int .u8 41, .int .u8 37, .int .u8 16, .int .u8 46, .int .u8 35, .int .u8 44, .int .u8 21, .int .u8 52, .int .u8 32, .int .u8 23, .int .u8 11, .int .u8 54, .int .u8 26, .int .u8 40, .int .u8 15, .int .u8 34, .int .u8 20, .int .u8 31, .int .u8 10, .int .u8 25, .int .u8 14, .int .u8 19, .int .u8 9, .int .u8 13, .int .u8 8, .int .u8 7, .int .u8 6]) t frozen
      | o => o).modify 5 fun
      | .cells _ t frozen => .cells (#[.int .u8 128, .int .u8 191, .int .u8 160, .int .u8 191, .int .u8 128, .int .u8 159, .int .u8 144, .int .u8 191, .int .u8 128, .int .u8 143, .int .u8 0, .int .u8 0, .int .u8 0, .int .u8 0, .int .u8 0, .int .u8 0, .int .u8 0, .int .u8 0, .int .u8 0, .int .u8 0, .int .u8 0, .int .u8 0, .int .u8 0, .int .u8 0, .int .u8 0, .int .u8 0, .int .u8 0, .int .u8 0, .int .u8 0, .int .u8 0, .int .u8 0, .int .u8 0]) t frozen
      | o => o).modify 4 fun
      | .cells _ t frozen => .cells ((Go.Pinned.utf8FirstZ.map fun z : Nat => Value.int .u8 (z : Int)).toArray) t frozen
      | o => o).modify 3 fun
      | .cells _ t frozen => .cells (#[.iface 261 (.pointer (some ⟨low, 0, none⟩))]) t frozen
      | o => o).modify 2 fun
      | .cells _ t frozen => .cells (#[.iface 261 (.pointer (some ⟨low + 1, 0, none⟩))]) t frozen
      | o => o) }
theorem own_knob : ownKnob Tryz.prog.godebug = none := by kernel_rfl
theorem laid_out : laidOutB Tryz.prog = true := by kernel_rfl
end Go.Proofs.YtoiijifnfdgfpaaGreatDoor

/- Linkages that came in, read as data. -/
namespace Go.Proofs.YtoiijifnfdgfpaaGreatDoor
open Go Go.RowKit Bn Go.ChangeShapes Go.WideShapes
attribute [local go_sem ↓] Go.wp_at_zero Go.wp_at_succ
section
variable {H : Type} {enc : TypeId × Value → H} {W : World}
theorem spot_none {a : Addr} {v : Value} (h : W.cell? a = some v) : ∃ g o, a = ⟨g, o, none⟩ ∧ g < W.heap.size := by
  obtain ⟨g, o, s⟩ := a
  unfold World.cell? at h
  dsimp only at h
  split at h
  · rename_i c _ _ hb
    cases s with
    | none => exact ⟨g, o, rfl, lt_of_block hb⟩
    | some _ => simp at h
  · cases h
def Szd (t : TypeId) (d : DataW H) : Prop := ∀ n ∈ DataW.weights Tryz.prog t d, n ≤ reachBytes
theorem Szd.field {t : TypeId} {fs : Array Field} {xs : List (DataW H × List MemPlace)} (hu : Tryz.prog.underlying t = some (.struct fs)) (h : Szd t (.agg (xs.map (·.1)))) {i : Nat} {f : Field} {y : DataW H × List MemPlace} (hf : fs[i]? = some f) (hy : xs[i]? = some y) : Szd f.type y.1 := by
  intro n hn
  refine h n ?_
  rw [DataW.weights, hu]
  exact DataW.weights_mem_each (j := i) (t := f.type) (d := y.1) (by rw [List.getElem?_map, Array.getElem?_toList, hf]; rfl) (by rw [List.getElem?_map, hy]; rfl) n hn
theorem weights_mem_all {P : Program} {e : TypeId} : ∀ {ds : List (DataW H)} {d : DataW H}, d ∈ ds → ∀ n ∈ DataW.weights P e d, n ∈ DataW.weightsAll P e ds
  | x :: ds, d, hd, n, hn => by
    rw [DataW.weightsAll, List.mem_append]
    rcases List.mem_cons.1 hd with rfl | hd
    · exact .inl hn
    · exact .inr (weights_mem_all hd n hn)
  | [], _, hd, _, _ => by cases hd
theorem Szd.elem {t e : TypeId} {l sp : List (DataW H)} (hu : Tryz.prog.underlying t = some (.slice e)) (h : Szd t (.slice l sp)) {d : DataW H} (hd : d ∈ l) : Szd e d := by
  intro n hn
  refine h n ?_
  rw [DataW.weights, hu]
  exact List.mem_cons_of_mem _ (List.mem_append_left _ (weights_mem_all hd n hn))
theorem Szd.room {t e : TypeId} {l sp : List (DataW H)} (hu : Tryz.prog.underlying t = some (.slice e)) (h : Szd t (.slice l sp)) : (l.length + sp.length) * Tryz.prog.bytesOf e ≤ reachBytes := by
  refine h _ ?_
  rw [DataW.weights, hu]
  exact List.mem_cons_self
theorem Szd.str {t : TypeId} {l : List UInt8} (h : Szd t (.lit (.string l) : DataW H)) : l.length ≤ reachBytes := h _ (by simp [DataW.weights])
theorem szd_of {ts : List TypeId} {ds : List (DataW H)} (h : (DataW.weightsEach Tryz.prog ts ds).all (· ≤ reachBytes) = true) {j : Nat} {t : TypeId} {d : DataW H} (ht : ts[j]? = some t) (hd : ds[j]? = some d) : Szd t d := fun n hn => by simpa using List.all_eq_true.1 h n (DataW.weights_mem_each ht hd n hn)
theorem add0 {g o i : Nat} : (⟨g, o, none⟩ : Addr).add i = ⟨g, o + i, none⟩ := add_plain g o i
theorem words_trod {v : Value} {fuel : Nat} {x : DataW H × List MemPlace} (ht : DataW.trod enc Tryz.prog W 0 (fun _ => true) true fuel 70 [v] = some x) (hz : Szd 70 x.1) :
    ∃ A n c l, v = .slice A n c ∧ Wd W A n c l ∧ n ≤ reachBytes := by
  rcases open_ints Tryz.underlying70 Tryz.underlying82 (by kernel_rfl) ht with ⟨hv, _⟩ | ⟨a, len, cap, zs, hv, _, hl, hcm, hzl, hx, hc, hwf⟩
  · injection hv with hv _
    exact ⟨none, 0, 0, [], hv, Wd.nil_ W, Nat.zero_le _⟩
  · injection hv with hv _
    subst hv
    rw [hx] at hz
    have hrm := hz.room Tryz.underlying70
    have hb4 : Tryz.prog.bytesOf 82 = 4 := by kernel_rfl
    rw [hb4] at hrm
    have hz : zs.length = cap := by simpa using hzl
    have hlr : len ≤ reachBytes := by
      have : (lits (H := H) .u32 (zs.take len)).length = len := by simp [lits]; omega
      omega
    have h0 : ∀ i, i < zs.length → 0 ≤ zs.getD i 0 ∧ zs.getD i 0 ≤ 4294967295 := by
      intro i hi
      have h1 := hwf (zs.getD i 0) (by rw [List.getD_eq_getElem?_getD, List.getElem?_eq_getElem hi]; simp)
      simpa [Lit.wf, IntKind.min, IntKind.max, IntKind.signed, IntKind.bits] using h1
    refine ⟨some a, len, cap, (zs.take len).map Int.toNat, rfl, ⟨?_, ?_, hl, fun hn => ?_⟩, hlr⟩
    · intro y hy
      obtain ⟨z, hz1, rfl⟩ := List.mem_map.1 hy
      obtain ⟨i, hi, he⟩ := List.getElem_of_mem hz1
      have hi2 : i < zs.length := by rw [List.length_take] at hi; omega
      have h1 := h0 i hi2
      rw [List.getD_eq_getElem?_getD, List.getElem?_eq_getElem hi2] at h1
      rw [List.getElem_take] at he
      simp only [Option.getD_some] at h1
      rw [he] at h1
      omega
    · rw [List.length_map, List.length_take]; omega
    · have hc0 := hc 0 (by omega)
      have e0 : a.add 0 = a := by simp [Addr.add]
      rw [e0] at hc0
      obtain ⟨g, o, rfl, _⟩ := spot_none hc0
      have hc1 := hc0
      unfold World.cell? at hc1
      dsimp only at hc1
      split at hc1
      · rename_i cur el fr hb
        have hr : RowW W g cur fr := ⟨el, .inr (noU_of (i := o) (k := .u32) (z := zs.getD 0 0) (by simpa using hc1)), hb⟩
        refine ⟨g, o, cur, fr, rfl, hr, fun i hi => ?_⟩
        have h1 := hc i (by omega)
        have h2 := h0 i (by omega)
        rw [add0, hr.cell] at h1
        rw [h1]
        have e4 : wd ((zs.take len).map Int.toNat) i = (zs.getD i 0).toNat := by
          unfold wd
          rw [List.getD_eq_getElem?_getD, List.getElem?_map, List.getElem?_take, if_pos hi, List.getD_eq_getElem?_getD]
          rcases zs[i]? with _ | z <;> rfl
        rw [e4, Int.toNat_of_nonneg h2.1]
      · cases hc1
theorem cells_bool : Tryz.prog.cellsOf 4 = 1 := by kernel_rfl
theorem cells_int : Tryz.prog.cellsOf 3 = 1 := by kernel_rfl
theorem cells_str : Tryz.prog.cellsOf 9 = 1 := by kernel_rfl
theorem cells_words : Tryz.prog.cellsOf 70 = 1 := by kernel_rfl
theorem cells_rat : Tryz.prog.cellsOf 72 = 3 := by kernel_rfl
theorem some_at {α : Type} {xs : List α} {i : Nat} (h : i < xs.length) : xs[i]? = some xs[i] := List.getElem?_eq_getElem h
theorem rat_trod {v0 v1 v2 : Value} {fuel : Nat} {x : DataW H × List MemPlace} (ht : DataW.trod enc Tryz.prog W 0 (fun _ => true) true fuel 72 [v0, v1, v2] = some x) (hz : Szd 72 x.1) :
    ∃ b A n c D m e r, v0 = .bool b ∧ v1 = .slice A n c ∧ v2 = .slice D m e ∧ QD W b A n c D m e r reachBytes := by
  obtain ⟨xs, n, _, hx, _, hxl, hf⟩ := DataW.trod_struct Tryz.underlying72 ht
  rw [hx] at hz
  have f0 : DataW.trod enc Tryz.prog W 0 (fun _ => true) true n 4 (List.take (Tryz.prog.cellsOf 4) [v0, v1, v2]) = xs[0]? := hf 0 _ rfl
  have f1 : DataW.trod enc Tryz.prog W 0 (fun _ => true) true n 70 (List.take (Tryz.prog.cellsOf 70) [v1, v2]) = xs[1]? := hf 1 _ rfl
  have f2 : DataW.trod enc Tryz.prog W 0 (fun _ => true) true n 70 (List.take (Tryz.prog.cellsOf 70) [v2]) = xs[2]? := hf 2 _ rfl
  rw [cells_bool] at f0
  rw [cells_words] at f1 f2
  have hx0 : xs.length = 3 := hxl
  rw [some_at (show 0 < xs.length by omega)] at f0
  have z0 := hz.field Tryz.underlying72 (i := 0) rfl (some_at (show 0 < xs.length by omega))
  rw [some_at (show 1 < xs.length by omega)] at f1
  have z1 := hz.field Tryz.underlying72 (i := 1) rfl (some_at (show 1 < xs.length by omega))
  rw [some_at (show 2 < xs.length by omega)] at f2
  have z2 := hz.field Tryz.underlying72 (i := 2) rfl (some_at (show 2 < xs.length by omega))
  obtain ⟨b, hb, _⟩ := DataW.trod_bool Tryz.underlying4 f0
  obtain ⟨A, n1, cc, l, rfl, h1, k1⟩ := words_trod f1 z1
  obtain ⟨D, m, e, l', rfl, h2, k2⟩ := words_trod f2 z2
  injection hb with hb _
  exact ⟨b, A, n1, cc, D, m, e, ⟨b, l, l'⟩, hb, rfl, rfl, rfl, h1, h2, k1, k2⟩
theorem str_trod {v : Value} {fuel : Nat} {x : DataW H × List MemPlace} (ht : DataW.trod enc Tryz.prog W 0 (fun _ => true) true fuel 9 [v] = some x) (hz : Szd 9 x.1) : ∃ t : List UInt8, v = strV t ∧ NmL t := by
  obtain ⟨s, hs, hx, _⟩ := DataW.trod_string Tryz.underlying9 ht
  injection hs with hs _
  subst hs
  obtain ⟨t, rfl⟩ : ∃ t : List UInt8, s = ⟨t.toArray⟩ := ⟨s.data.toList, by simp⟩
  refine ⟨t, rfl, ?_⟩
  rw [hx] at hz
  have h9 : t.length ≤ reachBytes := hz.str
  have h8 := reachBytes_lt
  unfold NmL
  omega
theorem sls_open {α : Type} [Inhabited α] (P0 : World → Nat → Nat → α → Prop) {t e : TypeId} (s : Nat) (ht : Tryz.prog.underlying t = some (.slice e)) (hs : Tryz.prog.cellsOf e = s) (hs0 : 0 < s)
    (one : ∀ (fuel : Nat) (cs : List Value) (y : DataW H × List MemPlace) (g o : Nat), cs.length = s → (∀ i, i < s → W.cell? ⟨g, o + i, none⟩ = cs[i]?) → DataW.trod enc Tryz.prog W 0 (fun _ => true) true fuel e cs = some y → Szd e y.1 → ∃ a, P0 W g o a)
    {v : Value} {fuel : Nat} {x : DataW H × List MemPlace} (h : DataW.trod enc Tryz.prog W 0 (fun _ => true) true fuel t [v] = some x) (hz : Szd t x.1) : ∃ A n c l, v = .slice A n c ∧ SlS P0 s W A n c l := by
  rcases Go.Deep.open_slice ht h with ⟨hv, _⟩ | ⟨a, len, cap, m, n, D, Pl, hv, _, hl, hm, hmm, hxe, hx⟩
  · injection hv with hv _
    exact ⟨none, 0, 0, [], hv, ⟨rfl, Nat.le_refl _, fun h => absurd h (by omega)⟩⟩
  · injection hv with hv _
    subst hv
    rw [hxe] at hz
    have hmc : m = cap := by simpa using hmm
    subst hmc
    rw [hs] at hx
    rcases Nat.eq_zero_or_pos len with h0 | h0
    · subst h0
      exact ⟨some a, 0, m, [], rfl, ⟨rfl, Nat.zero_le _, fun h => absurd h (by omega)⟩⟩
    · obtain ⟨cs0, hc0, _⟩ := hx 0 (by omega)
      obtain ⟨_, hl0, hce⟩ := World.cells?_some hc0
      have h00 := hce 0 hs0
      rw [some_at (show 0 < cs0.length by omega)] at h00
      have e0 : (a.add (0 * s)).add 0 = a := by simp [Addr.add]
      rw [e0] at h00
      obtain ⟨g, o, rfl, hg⟩ := spot_none h00
      obtain ⟨f, hf⟩ := Go.Deep.choose_lt (n := len) (p := fun i a => P0 W g (o + i * s) a) (fun i hi => by
        obtain ⟨cs, h1, h2⟩ := hx i (by omega)
        obtain ⟨_, h3, h4⟩ := World.cells?_some h1
        refine one n cs _ g (o + i * s) h3 (fun j hj => ?_) h2 (hz.elem ht (List.mem_map.2 ⟨i, List.mem_range.2 hi, rfl⟩))
        rw [← h4 j hj, add0, add0])
      refine ⟨_, len, m, (List.range len).map f, rfl, ⟨by simp, hl, fun _ => ⟨g, o, rfl, hg, fun i a ha => ?_⟩⟩⟩
      rw [List.getElem?_map] at ha
      rcases Nat.lt_or_ge i len with hi | hi
      · rw [List.getElem?_range hi] at ha
        injection ha with ha
        subst ha
        exact hf i hi
      · rw [List.getElem?_eq_none (by simpa using hi)] at ha
        cases ha
instance : Inhabited MarkL := ⟨⟨[], ⟨false, [], []⟩, ⟨false, [], []⟩⟩⟩
instance : Inhabited BodyL := ⟨⟨[], []⟩⟩
instance : Inhabited JointL := ⟨⟨[], 0, 0, 0, 0, 0, 0⟩⟩
instance : Inhabited DriverL := ⟨⟨[], 0⟩⟩
theorem mark_one (fuel : Nat) (cs : List Value) (y : DataW H × List MemPlace) (g o : Nat) (hl : cs.length = 7) (hc : ∀ i, i < 7 → W.cell? ⟨g, o + i, none⟩ = cs[i]?) (ht : DataW.trod enc Tryz.prog W 0 (fun _ => true) true fuel 85 cs = some y) (hz : Szd 85 y.1) : ∃ a, MkAt reachBytes W g o a := by
  match cs, hl with
  | [v0, v1, v2, v3, v4, v5, v6], _ =>
    obtain ⟨xs, n, _, hx, _, hxl, hf⟩ := DataW.trod_struct Tryz.underlying85 ht
    rw [hx] at hz
    have f0 : DataW.trod enc Tryz.prog W 0 (fun _ => true) true n 9 (List.take (Tryz.prog.cellsOf 9) [v0, v1, v2, v3, v4, v5, v6]) = xs[0]? := hf 0 _ rfl
    have f1 : DataW.trod enc Tryz.prog W 0 (fun _ => true) true n 72 (List.take (Tryz.prog.cellsOf 72) [v1, v2, v3, v4, v5, v6]) = xs[1]? := hf 1 _ rfl
    have f2 : DataW.trod enc Tryz.prog W 0 (fun _ => true) true n 72 (List.take (Tryz.prog.cellsOf 72) [v4, v5, v6]) = xs[2]? := hf 2 _ rfl
    rw [cells_str] at f0
    rw [cells_rat] at f1 f2
    have hx0 : xs.length = 3 := hxl
    rw [some_at (show 0 < xs.length by omega)] at f0
    have z0 := hz.field Tryz.underlying85 (i := 0) rfl (some_at (show 0 < xs.length by omega))
    rw [some_at (show 1 < xs.length by omega)] at f1
    have z1 := hz.field Tryz.underlying85 (i := 1) rfl (some_at (show 1 < xs.length by omega))
    rw [some_at (show 2 < xs.length by omega)] at f2
    have z2 := hz.field Tryz.underlying85 (i := 2) rfl (some_at (show 2 < xs.length by omega))
    obtain ⟨nm, rfl, hn⟩ := str_trod f0 z0
    obtain ⟨b, A, n1, c, D, m, e, r, rfl, rfl, rfl, h1⟩ := rat_trod f1 z1
    obtain ⟨b', A', n1', c', D', m', e', r', rfl, rfl, rfl, h2⟩ := rat_trod f2 z2
    have k0 := hc 0 (by omega)
    have k1 := hc 1 (by omega)
    have k2 := hc 2 (by omega)
    have k3 := hc 3 (by omega)
    have k4 := hc 4 (by omega)
    have k5 := hc 5 (by omega)
    have k6 := hc 6 (by omega)
    exact ⟨⟨nm, r, r'⟩, k0, ⟨b, A, n1, c, D, m, e, k1, k2, k3, h1⟩, ⟨b', A', n1', c', D', m', e', k4, k5, k6, h2⟩, hn⟩
theorem body_one (fuel : Nat) (cs : List Value) (y : DataW H × List MemPlace) (g o : Nat) (hl : cs.length = 2) (hc : ∀ i, i < 2 → W.cell? ⟨g, o + i, none⟩ = cs[i]?) (ht : DataW.trod enc Tryz.prog W 0 (fun _ => true) true fuel 56 cs = some y) (hz : Szd 56 y.1) : ∃ a, BdAt reachBytes W g o a := by
  match cs, hl with
  | [v0, v1], _ =>
    obtain ⟨xs, n, _, hx, _, hxl, hf⟩ := DataW.trod_struct Tryz.underlying56 ht
    rw [hx] at hz
    have f0 : DataW.trod enc Tryz.prog W 0 (fun _ => true) true n 9 (List.take (Tryz.prog.cellsOf 9) [v0, v1]) = xs[0]? := hf 0 _ rfl
    have f1 : DataW.trod enc Tryz.prog W 0 (fun _ => true) true n 54 (List.take (Tryz.prog.cellsOf 54) [v1]) = xs[1]? := hf 1 _ rfl
    have c1 : Tryz.prog.cellsOf 54 = 1 := by kernel_rfl
    rw [cells_str] at f0
    rw [c1] at f1
    have hx0 : xs.length = 2 := hxl
    rw [some_at (show 0 < xs.length by omega)] at f0
    have z0 := hz.field Tryz.underlying56 (i := 0) rfl (some_at (show 0 < xs.length by omega))
    rw [some_at (show 1 < xs.length by omega)] at f1
    have z1 := hz.field Tryz.underlying56 (i := 1) rfl (some_at (show 1 < xs.length by omega))
    obtain ⟨nm, rfl, hn⟩ := str_trod f0 z0
    obtain ⟨A, n1, c, l, rfl, h1⟩ := sls_open (MkAt reachBytes) 7 Tryz.underlying54 (by kernel_rfl) (by decide) mark_one f1 z1
    have k0 := hc 0 (by omega)
    have k1 := hc 1 (by omega)
    exact ⟨⟨nm, l⟩, A, n1, c, k0, k1, h1, hn⟩
theorem int_trod {v : Value} {fuel : Nat} {x : DataW H × List MemPlace} (ht : DataW.trod enc Tryz.prog W 0 (fun _ => true) true fuel 3 [v] = some x) : ∃ i : Int, v = .int .i64 i := by
  obtain ⟨i, hi, _⟩ := DataW.trod_int Tryz.underlying3 ht
  injection hi with hi _
  exact ⟨i, hi⟩
theorem joint_one (fuel : Nat) (cs : List Value) (y : DataW H × List MemPlace) (g o : Nat) (hl : cs.length = 7) (hc : ∀ i, i < 7 → W.cell? ⟨g, o + i, none⟩ = cs[i]?) (ht : DataW.trod enc Tryz.prog W 0 (fun _ => true) true fuel 60 cs = some y) (hz : Szd 60 y.1) : ∃ a, JtAt W g o a := by
  match cs, hl with
  | [v0, v1, v2, v3, v4, v5, v6], _ =>
    obtain ⟨xs, n, _, hx, _, hxl, hf⟩ := DataW.trod_struct Tryz.underlying60 ht
    rw [hx] at hz
    have f0 : DataW.trod enc Tryz.prog W 0 (fun _ => true) true n 9 (List.take (Tryz.prog.cellsOf 9) [v0, v1, v2, v3, v4, v5, v6]) = xs[0]? := hf 0 _ rfl
    have f1 : DataW.trod enc Tryz.prog W 0 (fun _ => true) true n 3 (List.take (Tryz.prog.cellsOf 3) [v1, v2, v3, v4, v5, v6]) = xs[1]? := hf 1 _ rfl
    have f2 : DataW.trod enc Tryz.prog W 0 (fun _ => true) true n 3 (List.take (Tryz.prog.cellsOf 3) [v2, v3, v4, v5, v6]) = xs[2]? := hf 2 _ rfl
    have f3 : DataW.trod enc Tryz.prog W 0 (fun _ => true) true n 3 (List.take (Tryz.prog.cellsOf 3) [v3, v4, v5, v6]) = xs[3]? := hf 3 _ rfl
    have f4 : DataW.trod enc Tryz.prog W 0 (fun _ => true) true n 3 (List.take (Tryz.prog.cellsOf 3) [v4, v5, v6]) = xs[4]? := hf 4 _ rfl
    have f5 : DataW.trod enc Tryz.prog W 0 (fun _ => true) true n 3 (List.take (Tryz.prog.cellsOf 3) [v5, v6]) = xs[5]? := hf 5 _ rfl
    have f6 : DataW.trod enc Tryz.prog W 0 (fun _ => true) true n 3 (List.take (Tryz.prog.cellsOf 3) [v6]) = xs[6]? := hf 6 _ rfl
    rw [cells_str] at f0
    rw [cells_int] at f1 f2 f3 f4 f5 f6
    have hx0 : xs.length = 7 := hxl
    rw [some_at (show 0 < xs.length by omega)] at f0
    have z0 := hz.field Tryz.underlying60 (i := 0) rfl (some_at (show 0 < xs.length by omega))
    rw [some_at (show 1 < xs.length by omega)] at f1
    have z1 := hz.field Tryz.underlying60 (i := 1) rfl (some_at (show 1 < xs.length by omega))
    rw [some_at (show 2 < xs.length by omega)] at f2
    have z2 := hz.field Tryz.underlying60 (i := 2) rfl (some_at (show 2 < xs.length by omega))
    rw [some_at (show 3 < xs.length by omega)] at f3
    have z3 := hz.field Tryz.underlying60 (i := 3) rfl (some_at (show 3 < xs.length by omega))
    rw [some_at (show 4 < xs.length by omega)] at f4
    have z4 := hz.field Tryz.underlying60 (i := 4) rfl (some_at (show 4 < xs.length by omega))
    rw [some_at (show 5 < xs.length by omega)] at f5
    have z5 := hz.field Tryz.underlying60 (i := 5) rfl (some_at (show 5 < xs.length by omega))
    rw [some_at (show 6 < xs.length by omega)] at f6
    have z6 := hz.field Tryz.underlying60 (i := 6) rfl (some_at (show 6 < xs.length by omega))
    obtain ⟨nm, rfl, hn⟩ := str_trod f0 z0
    obtain ⟨i1, rfl⟩ := int_trod f1
    obtain ⟨i2, rfl⟩ := int_trod f2
    obtain ⟨i3, rfl⟩ := int_trod f3
    obtain ⟨i4, rfl⟩ := int_trod f4
    obtain ⟨i5, rfl⟩ := int_trod f5
    obtain ⟨i6, rfl⟩ := int_trod f6
    have k0 := hc 0 (by omega)
    have k1 := hc 1 (by omega)
    have k2 := hc 2 (by omega)
    have k3 := hc 3 (by omega)
    have k4 := hc 4 (by omega)
    have k5 := hc 5 (by omega)
    have k6 := hc 6 (by omega)
    exact ⟨⟨nm, i1, i2, i3, i4, i5, i6⟩, k0, k1, k2, k3, k4, k5, k6, hn⟩
theorem driver_one (fuel : Nat) (cs : List Value) (y : DataW H × List MemPlace) (g o : Nat) (hl : cs.length = 2) (hc : ∀ i, i < 2 → W.cell? ⟨g, o + i, none⟩ = cs[i]?) (ht : DataW.trod enc Tryz.prog W 0 (fun _ => true) true fuel 58 cs = some y) (hz : Szd 58 y.1) : ∃ a, DrAt W g o a := by
  match cs, hl with
  | [v0, v1], _ =>
    obtain ⟨xs, n, _, hx, _, hxl, hf⟩ := DataW.trod_struct Tryz.underlying58 ht
    rw [hx] at hz
    have f0 : DataW.trod enc Tryz.prog W 0 (fun _ => true) true n 9 (List.take (Tryz.prog.cellsOf 9) [v0, v1]) = xs[0]? := hf 0 _ rfl
    have f1 : DataW.trod enc Tryz.prog W 0 (fun _ => true) true n 3 (List.take (Tryz.prog.cellsOf 3) [v1]) = xs[1]? := hf 1 _ rfl
    rw [cells_str] at f0
    rw [cells_int] at f1
    have hx0 : xs.length = 2 := hxl
    rw [some_at (show 0 < xs.length by omega)] at f0
    have z0 := hz.field Tryz.underlying58 (i := 0) rfl (some_at (show 0 < xs.length by omega))
    rw [some_at (show 1 < xs.length by omega)] at f1
    have z1 := hz.field Tryz.underlying58 (i := 1) rfl (some_at (show 1 < xs.length by omega))
    obtain ⟨nm, rfl, hn⟩ := str_trod f0 z0
    obtain ⟨i1, rfl⟩ := int_trod f1
    have k0 := hc 0 (by omega)
    have k1 := hc 1 (by omega)
    exact ⟨⟨nm, i1⟩, k0, k1, hn⟩
theorem link_trod {v0 v1 v2 v3 : Value} {fuel : Nat} {x : DataW H × List MemPlace} (ht : DataW.trod enc Tryz.prog W 0 (fun _ => true) true fuel 36 [v0, v1, v2, v3] = some x) (hz : Szd 36 x.1) :
    ∃ A n c B p d C q e L, v0 = strV L.name ∧ v1 = .slice A n c ∧ v2 = .slice B p d ∧ v3 = .slice C q e ∧ LkS reachBytes W A n c B p d C q e L := by
  obtain ⟨xs, n, _, hx, _, hxl, hf⟩ := DataW.trod_struct Tryz.underlying36 ht
  rw [hx] at hz
  have f0 : DataW.trod enc Tryz.prog W 0 (fun _ => true) true n 9 (List.take (Tryz.prog.cellsOf 9) [v0, v1, v2, v3]) = xs[0]? := hf 0 _ rfl
  have f1 : DataW.trod enc Tryz.prog W 0 (fun _ => true) true n 32 (List.take (Tryz.prog.cellsOf 32) [v1, v2, v3]) = xs[1]? := hf 1 _ rfl
  have f2 : DataW.trod enc Tryz.prog W 0 (fun _ => true) true n 33 (List.take (Tryz.prog.cellsOf 33) [v2, v3]) = xs[2]? := hf 2 _ rfl
  have f3 : DataW.trod enc Tryz.prog W 0 (fun _ => true) true n 34 (List.take (Tryz.prog.cellsOf 34) [v3]) = xs[3]? := hf 3 _ rfl
  have c1 : Tryz.prog.cellsOf 32 = 1 := by kernel_rfl
  have c2 : Tryz.prog.cellsOf 33 = 1 := by kernel_rfl
  have c3 : Tryz.prog.cellsOf 34 = 1 := by kernel_rfl
  rw [cells_str] at f0
  rw [c1] at f1
  rw [c2] at f2
  rw [c3] at f3
  have hx0 : xs.length = 4 := hxl
  rw [some_at (show 0 < xs.length by omega)] at f0
  have z0 := hz.field Tryz.underlying36 (i := 0) rfl (some_at (show 0 < xs.length by omega))
  rw [some_at (show 1 < xs.length by omega)] at f1
  have z1 := hz.field Tryz.underlying36 (i := 1) rfl (some_at (show 1 < xs.length by omega))
  rw [some_at (show 2 < xs.length by omega)] at f2
  have z2 := hz.field Tryz.underlying36 (i := 2) rfl (some_at (show 2 < xs.length by omega))
  rw [some_at (show 3 < xs.length by omega)] at f3
  have z3 := hz.field Tryz.underlying36 (i := 3) rfl (some_at (show 3 < xs.length by omega))
  obtain ⟨nm, rfl, hn⟩ := str_trod f0 z0
  obtain ⟨A, n1, c, l1, rfl, h1⟩ := sls_open (BdAt reachBytes) 2 Tryz.underlying32 (by kernel_rfl) (by decide) body_one f1 z1
  obtain ⟨B, p, d, l2, rfl, h2⟩ := sls_open JtAt 7 Tryz.underlying33 (by kernel_rfl) (by decide) joint_one f2 z2
  obtain ⟨C, q, e, l3, rfl, h3⟩ := sls_open DrAt 2 Tryz.underlying34 (by kernel_rfl) (by decide) driver_one f3 z3
  exact ⟨A, n1, c, B, p, d, C, q, e, ⟨nm, l1, l2, l3⟩, rfl, rfl, rfl, rfl, hn, h1, h2, h3⟩
variable {base : Nat}
theorem link_open {v : Value} {d : DataW H} {p : List MemPlace} (hok : Value.okWide Tryz.prog W .any base 36 v) (h : DataW.Trod enc Tryz.prog W 0 (fun _ => true) true 36 v d p) (hz : Szd 36 d) :
    ∃ A n c B p d C q e L, v = .agg #[strV L.name, .slice A n c, .slice B p d, .slice C q e] ∧ LkS reachBytes W A n c B p d C q e L := by
  obtain ⟨cs, rfl, hsz, _⟩ := cells_ok (ts := [9, 32, 33, 34]) Tryz.underlying36 (by kernel_rfl) (by kernel_rfl) hok
  obtain ⟨fuel, h⟩ := h
  obtain ⟨l⟩ := cs
  match l, hsz with
  | [v0, v1, v2, v3], _ =>
    obtain ⟨A, n, c, B, p, d, C, q, e, L, rfl, rfl, rfl, rfl, hk⟩ := link_trod h hz
    exact ⟨A, n, c, B, p, d, C, q, e, L, rfl, hk⟩
end
end Go.Proofs.YtoiijifnfdgfpaaGreatDoor

/- Bodies with names of up to 2^20 bytes: their texts (both); read as data under the second form's bound. -/
namespace Go.Proofs.YtoiijifnfdgfpaaGreatDoor
open Go Go.RowKit Bn Go.ChangeShapes Go.WideShapes
attribute [local go_sem ↓] Go.wp_at_zero Go.wp_at_succ
section
end
section
variable {H : Type} {enc : TypeId × Value → H} {W : World}
theorem SlS.each {α : Type} {P : World → Nat → Nat → α → Prop} {p : α → Prop} {s : Nat} {w : World} {A : Option Addr} {n c : Nat} {l : List α} (h : SlS (fun w g o a => P w g o a ∧ p a) s w A n c l) : ∀ a ∈ l, p a := by
  intro a ha
  obtain ⟨i, hi, e⟩ := List.getElem_of_mem ha
  obtain ⟨g, o, b, _, _, _, hb, hp⟩ := h.at_ (i := i) (by rw [← h.1]; exact hi)
  rw [List.getElem?_eq_getElem hi] at hb
  injection hb with hb
  rw [← e, hb]
  exact hp.2
variable {base : Nat}
theorem rat_openR {v : Value} {d : DataW H} {p : List MemPlace} (hok : Value.okWide Tryz.prog W .any base 72 v) (h : DataW.Trod enc Tryz.prog W 0 (fun _ => true) true 72 v d p) (hz : Szd 72 d) :
    ∃ b A n c D m e r, v = .agg #[.bool b, .slice A n c, .slice D m e] ∧ QD W b A n c D m e r reachBytes := by
  obtain ⟨cs, rfl, hsz, _⟩ := cells_ok (ts := [4, 70, 70]) Tryz.underlying72 (by kernel_rfl) (by kernel_rfl) hok
  obtain ⟨fuel, h⟩ := h
  obtain ⟨l⟩ := cs
  match l, hsz with
  | [v0, v1, v2], _ =>
    obtain ⟨b, A, n, c, D, m, e, r, rfl, rfl, rfl, hq⟩ := rat_trod h hz
    exact ⟨b, A, n, c, D, m, e, r, rfl, hq⟩
end
end Go.Proofs.YtoiijifnfdgfpaaGreatDoor

/- PrintAlone: the text of a body is read as the body, that of a number as the number; for every input the law returns true. The listed library variables are tied to the program text. -/
namespace Go.Proofs.YtoiijifnfdgfpaaGreatDoor
open Go Go.RowKit Bn Go.ChangeShapes Go.WideShapes Go.ChangeAt
attribute [local go_sem ↓] Go.wp_at_zero Go.wp_at_succ
theorem alone_contract (H : Type) (enc : TypeId × Value → H) (W : World) (base : Nat) (args : Array Value) (ds gs : List (DataW H)) (before : List MemPlace)
    (hval0 : ∀ (j : Nat) t v, Tryz.f10.params[j]? = some t → args[j]? = some v → Value.okWide Tryz.prog W .any base t v)
    (hW : DataW.Whole enc Tryz.prog Tryz.f10.params.toList Rows.printAloneSpec.vars false W args.toList ds gs before) (hL : laidMetH Tryz.prog Rows.printAloneRow.laid W) (hwt : (DataW.weightsEach Tryz.prog (Tryz.f10.params.toList ++ (OpenSpec.ofChange Rows.printAloneSpec).bare.plain.varTypes Tryz.prog) (ds ++ gs)).all (· ≤ reachBytes) = true) (hsh : W.ShapedOpen Tryz.prog) :
    Calls Tryz.prog 10 args W fun e W' => ∃ v, e = .returned v ∧ Rows.printAloneSpec.post enc Tryz.prog Tryz.f10 false true false false W args v W' := by
  have hval : ∀ (j : Nat) t v, Tryz.f10.params[j]? = some t → args[j]? = some v → Value.okWide Tryz.prog W .any base t v := hval0
  have htab : Tab W := tab_of_laid hL
  have hmx : Mx W := mx_of_shaped hsh
  have hW' := hW
  obtain ⟨p, q, hA0, hV, rfl, hfz, hnd⟩ := hW
  have hA : DataW.TrodAll enc Tryz.prog W 0 (fun _ => true) true Tryz.f10.params.toList args.toList ds p := hA0
  rw [Tryz.params10] at hA hval
  obtain ⟨v0, v1, d0, d1, p0, p1, rfl, rfl, rfl, h0, h1⟩ := trodAll_two hA
  obtain ⟨rfl, rfl⟩ := trodVars_none hV
  obtain ⟨A, n, c, B, p, d, C, q, e, L, rfl, H⟩ := link_open (hval 0 _ v0 rfl rfl) h0 (szd_of hwt (j := 0) rfl rfl)
  obtain ⟨x, X, nx, cx, Y, my, ey, r, rfl, HR⟩ := rat_openR (hval 1 _ v1 rfl rfl) h1 (szd_of hwt (j := 1) rfl rfl)
  refine (l_PrintAlone W A n c B p d C q e L H x X nx cx Y my ey r HR htab hmx).mono fun e W' ⟨he, hb⟩ => ?_
  subst he
  exact ⟨_, rfl, law_post laid_out Tryz.underlying4 hW' rfl rfl (by kernel_rfl) rfl rfl rfl hb⟩
theorem alone_lifted (os : Os) (started : os.Started) (H : Type) (enc : TypeId × Value → H) (F : Stop.Interp) :
    ReturnsInHanded {} Tryz.checked os 10 .any ((OpenSpec.ofChange Rows.printAloneSpec).preRow enc Tryz.prog Tryz.f10 Rows.printAloneRow.domain false Rows.printAloneRow.laid) (((OpenSpec.ofChange Rows.printAloneSpec).at F).post enc Tryz.prog Tryz.f10 false true false false) := by
  have hx : DataW.whole enc Tryz.prog ((laidWorld os).forCall (fun _ _ => 0) ⟨#[], #[.agg #[.string ⟨#[]⟩, .slice none 0 0, .slice none 0 0, .slice none 0 0], .agg #[.bool false, .slice none 0 0, .slice none 0 0]], []⟩).memory Tryz.f10.params.toList Rows.printAloneSpec.vars false (#[.agg #[.string ⟨#[]⟩, .slice none 0 0, .slice none 0 0, .slice none 0 0], .agg #[.bool false, .slice none 0 0, .slice none 0 0]] : Array Value).toList 8 = some ([.agg [.lit (.string []), .nil, .nil, .nil], .agg [.lit (.bool false), .nil, .nil]], [], []) := by kernel_rfl
  have hl : laidMet Tryz.prog Rows.printAloneRow.laid ((laidWorld os).forCall (fun _ _ => 0) ⟨#[], #[.agg #[.string ⟨#[]⟩, .slice none 0 0, .slice none 0 0, .slice none 0 0], .agg #[.bool false, .slice none 0 0, .slice none 0 0]], []⟩).memory := laidMet_of_run' 8 (by kernel_rfl) (by kernel_rfl)
  refine returnsInHanded_of_row (C := Tryz.checked) (s := OpenSpec.ofChange Rows.printAloneSpec) own_knob started (by kernel_rfl) Tryz.func10
    (witness_row_at (enc := enc) (C := Tryz.checked) false (laidWorld os) #[.agg #[.string ⟨#[]⟩, .slice none 0 0, .slice none 0 0, .slice none 0 0], .agg #[.bool false, .slice none 0 0, .slice none 0 0]] rfl (by kernel_rfl) (by kernel_rfl) (by kernel_rfl)
      (OpenSpec.preRow_of_cond 8 hx (by kernel_rfl) (fun k hk => by cases hk) (by kernel_rfl) hl)) ?_
  intro W base args ds gs before hval hW _ _ hwt hL hsh _
  exact alone_contract H enc W base args ds gs before hval hW hL hwt hsh
theorem alone_j2 : (Rows.printAloneRow.inPlace == Tryz.pinned.checked.prog.inPlace 10) = true := by kernel_rfl
theorem alone_j3 : (Rows.printAloneRow.unfollowed == Tryz.pinned.checked.prog.unfollowed 10) = true := by kernel_rfl
theorem alone_j4 : (Rows.printAloneRow.recurses == Tryz.pinned.checked.prog.recurses 10) = true := by kernel_rfl
theorem alone_j5 : (Rows.printAloneRow.named == Tryz.pinned.checked.prog.varsNamed 10) = true := by kernel_rfl
theorem alone_joined : joinedFacts Tryz.pinned.checked.prog 10 Tryz.f10 (OpenSpec.ofChange Rows.printAloneSpec).bare Rows.printAloneRow = true := joined_parts (by kernel_rfl) alone_j2 alone_j3 alone_j4 alone_j5 (by kernel_rfl)
theorem alone_inst : Tryz.f10.isInstance Tryz.pinned.checked.prog Rows.printAloneRow.origin Rows.printAloneRow.targs := of_decide_eq_true (by kernel_rfl)
theorem alone_said : Rows.PrintAloneSaid :=
  OpenClaim.holds_of_cond 10 Tryz.f10 rfl rfl rfl rfl rfl rfl rfl ⟨rfl, rfl, rfl, rfl, rfl⟩ rfl rfl rfl rfl rfl (by kernel_rfl) Tryz.func10 alone_joined
    alone_inst (by unfold Func.isWrapper; first | (rw [if_pos (by decide +kernel)]; kernel_rfl) | (rw [if_neg (by decide +kernel)]; exact ⟨rfl, rfl⟩))
    (fun os started H enc _ F => by rw [OpenClaim.pre_eq_preRow]; exact alone_lifted os started H enc F)
theorem alone_plain (f : FuncId) (fn : Func) (hf : Tryz.pinned.checked.prog.funcNamed "linkwork/linkworklaw21.PrintAlone" = some f) (hfn : Tryz.pinned.checked.prog.funcs[f]? = some fn) :
    true = Tryz.pinned.checked.prog.looks [] ∧ ∀ (j : Nat) t, fn.params[j]? = some t → Tryz.pinned.checked.prog.wantsStandIn t = false := by
  obtain rfl : f = 10 := Option.some.inj ((show Tryz.prog.funcNamed "linkwork/linkworklaw21.PrintAlone" = some 10 by kernel_rfl).symm.trans hf) |>.symm
  obtain rfl : fn = Tryz.f10 := (Option.some.inj (Tryz.func10.symm.trans hfn)).symm
  refine ⟨by kernel_rfl, fun j t ht => ?_⟩
  rw [Tryz.params10] at ht
  have hm : t ∈ [36, 72] := by
    have := Array.mem_of_getElem? ht
    simp at this ⊢
    first
      | exact this
      | exact .inl this
  have hall : ([36, 72].all fun u => !Tryz.prog.wantsStandIn u) = true := by kernel_rfl
  exact (show Tryz.prog.wantsStandIn t = false by simpa using List.all_eq_true.1 hall t hm)
theorem alone_holds : Rows.PrintAloneCardSaid :=
  Claim7.holds_tied_plain_at .later [] _ _ _ _ alone_said (fun _ h => by cases h) (by kernel_rfl) (fun _ h => by cases h) printAlone_row_tie rfl ⟨rfl, rfl⟩ (by kernel_rfl) rfl alone_plain (by kernel_rfl)
end Go.Proofs.YtoiijifnfdgfpaaGreatDoor
