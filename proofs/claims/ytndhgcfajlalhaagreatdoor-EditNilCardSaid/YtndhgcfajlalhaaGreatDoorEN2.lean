/- Part EN2: lemmas and walks that the claim rests on. No claim is made here. -/
import Derived.Deep.RegionHeld3
import Derived.Deep.DrawnRows
import Derived.IntWalk
import Derived.Deep.DeepCutAuto
import Derived.Test.YtndhgcfajlalhaaGreatDoorProg
import Derived.WalkKit
import Derived.WalkSpells
import Derived.WalkLawsBesides
import Derived.BigQuiet
import Derived.Deep.QuietTactic
import Derived.Deep.AppendLies
import Derived.Lib.Hide
import Derived.Laws.OwnMore
import Derived.Deep.RegionHeld
import Derived.Lib.ItoaNum
import Derived.Lib.ItoaMem
import Derived.Lib.Repeat
import Derived.Lib.Join
import Derived.Lib.Atoi
import Derived.Lib.SlTrimSet
import Derived.Test.YtndhgcfajlalhaaGreatDoorEN1
set_option linter.unusedVariables false
set_option maxHeartbeats 8000000
set_option maxRecDepth 100000
/- Walks: integer.Div. -/
namespace Go.Proofs.YtndhgcfajlalhaaGreatDoor
open Go Go.RowKit Bn
attribute [local go_sem ↓] Go.wp_at_zero Go.wp_at_succ

theorem zT {a b q r:Int}(hb:b≠0) (h:r+b * q=a) (h0:0≤r) (h1:r < b.natAbs):a / b=q∧a % b=r:=by
 rcases Int.lt_or_gt_of_ne hb with hn | hp
 ·have h2:r+-b * -q=a:=by rw [Int.neg_mul_neg];exact h
  obtain ⟨h3,h4⟩:=(Int.ediv_emod_unique (a:=a) (b:=-b) (q:=-q) (r:=r) (by omega)).2 ⟨h2,h0,by omega⟩;rw [Int.ediv_neg] at h3;rw [Int.emod_neg] at h4;exact ⟨by omega,h4⟩
 exact (Int.ediv_emod_unique (by omega)).2 ⟨h,h0,by omega⟩
theorem gc {sa sb:Bool}{x y:Nat}(hy:y≠0) (h:sa=false∨x % y=0):sgn sa x / sgn sb y=sgn (!(sa == sb)) (x / y)∧sgn sa x % sgn sb y=((x % y:Nat):Int):=by
 have h1:((x % y:Nat):Int)+(y:Int) * ((x / y:Nat):Int)=(x:Int):=by exact_mod_cast Nat.mod_add_div x y
 have h2:x % y < y:=Nat.mod_lt _ (Nat.pos_of_ne_zero hy);apply zT
 ·cases sb <;> simp [sgn] <;> omega
 ·cases sa
  ·cases sb <;> simp only [sgn] <;> simp [Int.neg_mul,Int.mul_neg] <;> simpa using h1
  have h3:x % y=0:=by simpa using h
  rw [h3] at h1 ⊢;cases sb <;> simp only [sgn] <;> simp [Int.neg_mul,Int.mul_neg] at h1 ⊢ <;> omega
 ·omega
 cases sb <;> simp [sgn] <;> omega
theorem wG {sb:Bool}{x y:Nat}(hy:y≠0) (h:x % y≠0):sgn true x / sgn sb y=sgn (!(true == sb)) (x / y+1)∧sgn true x % sgn sb y=((y - x % y:Nat):Int):=by
 have h1:((x % y:Nat):Int)+(y:Int) * ((x / y:Nat):Int)=(x:Int):=by exact_mod_cast Nat.mod_add_div x y
 have h2:x % y < y:=Nat.mod_lt _ (Nat.pos_of_ne_zero hy);have h3:((y - x % y:Nat):Int)=(y:Int) - ((x % y:Nat):Int):=by omega
 have h4:(y:Int) * (((x / y:Nat):Int)+1)=(y:Int) * ((x / y:Nat):Int)+y:=by rw [Int.mul_add,Int.mul_one]
 apply zT
 ·cases sb <;> simp [sgn] <;> omega
 ·rw [h3]
  cases sb
  ·show _+(y:Int) * -((x / y+1:Nat):Int)=-(x:Int)
   rw [Int.mul_neg,Int.natCast_add,show ((1:Nat):Int)=1 from rfl,h4];generalize (y:Int) * ((x / y:Nat):Int)=Q at *;omega
  show _+-(y:Int) * ((x / y+1:Nat):Int)=-(x:Int);rw [Int.neg_mul,Int.natCast_add,show ((1:Nat):Int)=1 from rfl,h4];generalize (y:Int) * ((x / y:Nat):Int)=Q at *;omega
 ·omega
 cases sb <;> simp [sgn] <;> omega
theorem tN (w:World) (A n c l) (wa:Wd w A n c l) (hn:n≤1099511627000) (A' n' c' l') (wb:Wd w A' n' c' l') (hn':n'≤1099511627000) (hc:aO l) (hc':aO l') (x y:Nat) (hx:val l=x) (hy:val l'=y) (h0:y≠0) :
 Calls Tryz.prog 171 #[.slice A n c,.slice A' n' c'] w (pE w x y):=by subst hx hy;exact nN w A n c l wa hn A' n' c' l' wb hn' hc hc' h0
theorem yy (w:World) (A n c l) (wa:Wd w A n c l) (hn:n≤1099511627776) (A' n' c' l') (wb:Wd w A' n' c' l') (hn':n'≤1099511627776) (z:Nat) (hz:val l+val l'=z) :
 Calls Tryz.prog 141 #[.slice A n c,.slice A' n' c'] w (fm w (am z)):=by subst hz;exact py w A n c l wa hn A' n' c' l' wb hn'
theorem yz (w:World) (A n c l) (wa:Wd w A n c l) (hn:n≤1099511627776) (A' n' c' l') (wb:Wd w A' n' c' l') (hn':n'≤n) (hv:val l'≤val l) (z:Nat) (hz:val l - val l'=z) :
 Calls Tryz.prog 142 #[.slice A n c,.slice A' n' c'] w (fm w (am z)):=by subst hz;exact pz w A n c l wa hn A' n' c' l' wb hn' hv
theorem tP {w:World}{A:Option Addr}{n c z N:Nat}(h:Wd w A n c (am z)) (hN:n≤N):(am (z+1)).length≤N+1:=by
 have h1:=h.vlt hN;rw [ag] at h1;refine ar (Nat.lt_of_le_of_lt h1 ?_);rw [Nat.pow_succ];have:=fG N;omega
def yA (w:World) (q r:Int) (e:Ending) (w':World):Prop:=∃ A1 n1 c1 A2 n2 c2,e=.returned (.tuple #[.agg #[.bool (wh q).neg,.slice A1 n1 c1],.agg #[.bool (wh r).neg,.slice A2 n2 c2],.nilIface])∧Wd w' A1 n1 c1 (wh q).mag∧Wd w' A2 n2 c2 (wh r).mag∧Below w.heap.size w w'
theorem kp4 {w:World}{g g':Nat}{t t':TypeId}(x:Box w g t) (x':Box w g' t') (ht:KT t=false) (ht':KT t'=false) (i j i' j':Nat) (u v u' v':Value) :
 Kp w ((((w.setCell ⟨g,i,none⟩ u).setCell ⟨g,j,none⟩ v).setCell ⟨g',i',none⟩ u').setCell ⟨g',j',none⟩ v') :=
 fun h _ _ y=>y.same ((Below.heap_setCell _ _ v' h (y.neB x' ht')).trans ((Below.heap_setCell _ _ u' h (y.neB x' ht')).trans ((Below.heap_setCell _ _ v h (y.neB x ht)).trans (Below.heap_setCell w _ u h (y.neB x ht)))))
theorem zU (w:World) (b:Bool) (A n c l) (wa:Wd w A n c l) (hn:n≤1099511627000) (b':Bool) (A' n' c' l') (wb:Wd w A' n' c' l') (hn':n'≤1099511627000) (h0:WD.z ⟨b',l'⟩≠0) :
 Calls Tryz.prog 139 #[.agg #[.bool b,.slice A n c],.agg #[.bool b',.slice A' n' c']] w (yA w (WD.z ⟨b,l⟩ / WD.z ⟨b',l'⟩) (WD.z ⟨b,l⟩ % WD.z ⟨b',l'⟩)):=by
 have HL:=Qh wa.2.1;have HL':=Qh wb.2.1;have hcm1:aO (WD.m ⟨b,l⟩):=WD.canon_m wa.1;have hcm2:aO (WD.m ⟨b',l'⟩):=WD.canon_m wb.1;rw [WD.z_eq] at h0 ⊢;rw [WD.z_eq ⟨b',l'⟩];have hv2:val (WD.m ⟨b',l'⟩)≠0:=by intro e;rw [e] at h0;exact h0 (by cases (WD.s ⟨b',l'⟩) <;> rfl)
 obtain ⟨sa,hsa⟩:∃ s,WD.s ⟨b,l⟩=s:=⟨_,rfl⟩;obtain ⟨sb,hsb⟩:∃ s,WD.s ⟨b',l'⟩=s:=⟨_,rfl⟩;rw [hsa,hsb];obtain ⟨x,hx⟩:∃ x,val (WD.m ⟨b,l⟩)=x:=⟨_,rfl⟩;obtain ⟨y,hy⟩:∃ y,val (WD.m ⟨b',l'⟩)=y:=⟨_,rfl⟩;rw [hx,hy];have HS:=Qh (And.intro hsa hsb);have HX:=Qh (And.intro hx hy);have HY:=Qh (show y≠0 from hy ▸ hv2);have hrm:=Nat.mod_lt x (Nat.pos_of_ne_zero HY.out);have HR:=Qh hrm;clear hsa hsb hx hy hv2 h0 hrm;go_in;go_wp2_with fail;have b0:Below w.heap.size w ((((w.alloc (.cells #[.bool b,.slice A n c] 134)).alloc (.cells #[.bool b',.slice A' n' c'] 134)).alloc (.cells #[.bool false,.slice none 0 0] 134)).alloc (.cells #[.bool false,.slice none 0 0] 134)):=(((((Below.refl _ _).alloc Qr _).alloc (by simp) _).alloc (by simp;omega) _).alloc (by simp;omega) _);generalize hW0:((((w.alloc (.cells #[.bool b,.slice A n c] 134)).alloc (.cells #[.bool b',.slice A' n' c'] 134)).alloc (.cells #[.bool false,.slice none 0 0] 134)).alloc (.cells #[.bool false,.slice none 0 0] 134))=W0 at b0 ⊢;have c00:W0.cell? ⟨w.heap.size,0,none⟩=some (.bool b):=by subst hW0;simp [go_sem]
 have f00:W0.frozen? ⟨w.heap.size,0,none⟩=false:=by subst hW0;simp [go_sem]
 have c01:W0.cell? ⟨w.heap.size,1,none⟩=some (.slice A n c):=by subst hW0;simp [go_sem]
 have f01:W0.frozen? ⟨w.heap.size,1,none⟩=false:=by subst hW0;simp [go_sem]
 have c10:W0.cell? ⟨w.heap.size+1,0,none⟩=some (.bool b'):=by subst hW0;simp [go_sem]
 have f10:W0.frozen? ⟨w.heap.size+1,0,none⟩=false:=by subst hW0;simp [go_sem]
 have c11:W0.cell? ⟨w.heap.size+1,1,none⟩=some (.slice A' n' c'):=by subst hW0;simp [go_sem]
 have f11:W0.frozen? ⟨w.heap.size+1,1,none⟩=false:=by subst hW0;simp [go_sem]
 have c20:W0.cell? ⟨w.heap.size+1+1,0,none⟩=some (.bool false):=by subst hW0;simp [go_sem]
 have f20:W0.frozen? ⟨w.heap.size+1+1,0,none⟩=false:=by subst hW0;simp [go_sem]
 have c21:W0.cell? ⟨w.heap.size+1+1,1,none⟩=some (.slice none 0 0):=by subst hW0;simp [go_sem]
 have f21:W0.frozen? ⟨w.heap.size+1+1,1,none⟩=false:=by subst hW0;simp [go_sem]
 have c30:W0.cell? ⟨w.heap.size+1+1+1,0,none⟩=some (.bool false):=by subst hW0;simp [go_sem]
 have f30:W0.frozen? ⟨w.heap.size+1+1+1,0,none⟩=false:=by subst hW0;simp [go_sem]
 have c31:W0.cell? ⟨w.heap.size+1+1+1,1,none⟩=some (.slice none 0 0):=by subst hW0;simp [go_sem]
 have f31:W0.frozen? ⟨w.heap.size+1+1+1,1,none⟩=false:=by subst hW0;simp [go_sem]
 have x0:Box W0 w.heap.size 134:=by subst hW0;exact (((bG _ _ _ (by simp)).alloc _).alloc _).alloc _
 have x1:Box W0 (w.heap.size+1) 134:=by subst hW0;exact ((bG _ _ _ (by simp)).alloc _).alloc _
 have x2:Box W0 (w.heap.size+1+1) 134:=by subst hW0;exact (bG _ _ _ (by simp)).alloc _
 have x3:Box W0 (w.heap.size+1+1+1) 134:=by subst hW0;exact bG _ _ _ (by simp)
 have hm0:ix (w.heap.size+1+1) (w.heap.size+1+1+1+1) 2 W0:=by subst hW0;exact xR (by simp) rfl
 have hs0:w.heap.size+1+1+1+1≤W0.heap.size:=by subst hW0;simp
 clear hW0;have wa:=wa.belw b0;have wb:=wb.belw b0;have r0:Below W0.heap.size W0 W0:=aa _
 go_wp2_with (first
  | (go_at_call 120;(with_reducible refine (dQ _ b' A' n' c' l' ?_ ?_).mono ?_);(exact wb);(omega);rintro e w1 ⟨A1,n1,c1,rfl,h1,hb1⟩;have e1:((n1:Int) == 0)=false:=(by have:=h1.2.1;have h9:=HX.out.2;have h7:=HY.out;have h8:n1≠0:=(fun e=>by rw [List.eq_nil_of_length_eq_zero (show (WD.m ⟨b',l'⟩).length=0 by omega)] at h9;exact h7 h9.symm);simp;omega);have r1:=ah r0 hb1;replace wa:=wa.belw hb1;replace wb:=wb.belw hb1;(try clear sc sf sr sz);obtain ⟨⟨sc,sf⟩,sr,sz⟩:=bj.of (by omega) hs0 hm0 r1)
  | (go_at_call 120;(with_reducible refine (dQ _ b A n c l ?_ ?_).mono ?_);(exact wa);(omega);rintro e w2 ⟨A2,n2,c2,rfl,h2,hb2⟩;have r2:=ah r1 hb2;replace wa:=wa.belw hb2;replace wb:=wb.belw hb2;replace h1:=h1.belw hb2;(try clear sc sf sr sz);obtain ⟨⟨sc,sf⟩,sr,sz⟩:=bj.of (by omega) hs0 hm0 r2)
  | (go_at_call 171;(with_reducible refine (tN _ A2 n2 c2 (WD.m ⟨b,l⟩) ?_ ?_ A1 n1 c1 (WD.m ⟨b',l'⟩) ?_ ?_ hcm1 hcm2 x y ?_ ?_ ?_).mono ?_);(exact h2);(exact h2.m_len (by rw [← HL.out];exact hn));(exact h1);(exact h1.m_len (by rw [← HL'.out];exact hn'));(exact HX.out.1);(exact HX.out.2);(exact HY.out);rintro e w3 ⟨A3,n3,c3,A4,n4,c4,rfl,h3,h4,hb3⟩;have r3:=ah r2 hb3;replace wa:=wa.belw hb3;replace wb:=wb.belw hb3;replace h1:=h1.belw hb3;replace h2:=h2.belw hb3;(try clear sc sf sr sz);obtain ⟨⟨sc,sf⟩,sr,sz⟩:=bj.of (by omega) hs0 hm0 r3))
 have hn3:n3≤1099511627000:=by
  rw [h3.2.1];exact pt (Nat.lt_of_le_of_lt (Nat.div_le_self _ _) (HX.out.1 ▸ h2.vlt Qr)) (h2.m_len (by rw [← HL.out];exact hn))
 have hn1:n1≤1099511627000:=h1.m_len (by rw [← HL'.out];exact hn');have hn4:n4≤n1:=qL h4 HY.out (HX.out.2 ▸ h1.vlt Qr);cases sa
 ·go_wp2_with (first
   | (go_at_call 121;(with_reducible refine (eU _ b A n c l false ?_ ?_ ?_).mono ?_);(exact wa);(omega);(exact HS.out.1);rintro e w4 ⟨rfl,hb4⟩;have r4:=ah r3 hb4;replace wa:=wa.belw hb4;replace wb:=wb.belw hb4;replace h1:=h1.belw hb4;replace h2:=h2.belw hb4;replace h3:=h3.belw hb4;replace h4:=h4.belw hb4;(try clear sc sf sr sz);obtain ⟨⟨sc,sf⟩,sr,sz⟩:=bj.of (by omega) hs0 hm0 r4))
  have HZ:=Qh (gc (sa:=false) (sb:=sb) (x:=x) HY.out (.inl rfl));(try clear sc sf sr sz);have hRB:w.heap.size+1+1≤w.heap.size+1+1+1+1:=by omega
  go_region_held3 (fun w'=>Sees (w.heap.size+1+1) W0 w') (first | exact Sees.of (Nat.le_trans hRB hs0) (by assumption) | exact Sees.of (Nat.le_trans hRB hs0) (af (by assumption) _) | exact (Sees.set (Sees.of (Nat.le_trans hRB hs0) (by assumption)) (by simp)) | exact (Sees.set (Sees.set (Sees.of (Nat.le_trans hRB hs0) (by assumption)) (by simp)) (by simp)) | exact (Sees.set (Sees.set (Sees.set (Sees.of (Nat.le_trans hRB hs0) (by assumption)) (by simp)) (by simp)) (by simp)) | exact (Sees.set (Sees.set (Sees.set (Sees.set (Sees.of (Nat.le_trans hRB hs0) (by assumption)) (by simp)) (by simp)) (by simp)) (by simp)))
   (first
    | (go_at_call 121;(with_reducible refine (eU _ b A n c l false ?_ ?_ ?_).mono ?_);(exact wa);(omega);(exact HS.out.1);rintro e w5 ⟨rfl,hb5⟩;replace hb5:=ah (af (aa _) 1) hb5;have r5:=ah r4 hb5;replace wa:=wa.belw hb5;replace wb:=wb.belw hb5;replace h1:=h1.belw hb5;replace h2:=h2.belw hb5;replace h3:=h3.belw hb5;replace h4:=h4.belw hb5)
    | (go_at_call 121;(with_reducible refine (eU _ b' A' n' c' l' sb ?_ ?_ ?_).mono ?_);(exact wb);(omega);(exact HS.out.2);rintro e w6 ⟨rfl,hb6⟩;have r6:=ah r5 hb6;replace wa:=wa.belw hb6;replace wb:=wb.belw hb6;replace h1:=h1.belw hb6;replace h2:=h2.belw hb6;replace h3:=h3.belw hb6;replace h4:=h4.belw hb6)
    | (go_at_call 140;(with_reducible refine (cR _ sb A3 n3 c3 (am (x / y)) (sgn false x / sgn sb y) ?_ ?_ ?_).mono ?_);(exact h3);(omega);(rw [HZ.out.1,ag];cases sb <;> rfl);rintro e w7 ⟨A8,n8,c8,rfl,h8,hb7⟩;have r7:=ah r6 hb7;replace wa:=wa.belw hb7;replace wb:=wb.belw hb7;replace h1:=h1.belw hb7;replace h2:=h2.belw hb7;replace h3:=h3.belw hb7;replace h4:=h4.belw hb7)
    | (go_at_call 140;(with_reducible refine (cR _ false A4 n4 c4 (am (x % y)) (sgn false x % sgn sb y) ?_ ?_ ?_).mono ?_);(exact h4);(omega);(rw [HZ.out.2,ag];rfl);rintro e w8 ⟨A9,n9,c9,rfl,h9,hb8⟩;have r8:=ah r7 hb8;replace wa:=wa.belw hb8;replace wb:=wb.belw hb8;replace h1:=h1.belw hb8;replace h2:=h2.belw hb8;replace h3:=h3.belw hb8;replace h4:=h4.belw hb8;replace h8:=h8.belw hb8;obtain ⟨⟨sc,sf⟩,sr,sz⟩:=bj.of (by omega) hs0 hm0 r8))
  clear hRB;go_wp2_with fail;refine bodyPost_ret (v:=.tuple #[.agg #[.bool _,.slice A8 n8 c8],.agg #[.bool _,.slice A9 n9 c9],.nilIface]) (by simp [results,Tryz.results139,go_sem,sr];first | rfl | exact ⟨rfl,rfl⟩) rfl ?_;have y2:=x2.below r8;have y3:=x3.below r8;refine ⟨A8,n8,c8,A9,n9,c9,rfl,?_,?_,?_⟩
  ·exact h8.keep (kp4 y2 y3 (by decide) (by decide) _ _ _ _ _ _ _ _)
  ·exact h9.keep (kp4 y2 y3 (by decide) (by decide) _ _ _ _ _ _ _ _)
  exact ((((b0.trans (r8.mono b0.size)).setCell (by dsimp only;omega) _).setCell (by dsimp only;omega) _).setCell (by dsimp only;omega) _).setCell (by dsimp only;omega) _
 by_cases hr0:x % y=0
 ·have HR0:=Qh hr0
  have hn40:n4=0:=by rw [h4.2.1,hr0,av];rfl
  clear hr0;subst hn40
  go_wp2_with (first
   | (go_at_call 121;(with_reducible refine (eU _ b A n c l true ?_ ?_ ?_).mono ?_);(exact wa);(omega);(exact HS.out.1);rintro e w4 ⟨rfl,hb4⟩;have r4:=ah r3 hb4;replace wa:=wa.belw hb4;replace wb:=wb.belw hb4;replace h1:=h1.belw hb4;replace h2:=h2.belw hb4;replace h3:=h3.belw hb4;replace h4:=h4.belw hb4;(try clear sc sf sr sz);obtain ⟨⟨sc,sf⟩,sr,sz⟩:=bj.of (by omega) hs0 hm0 r4))
  have HZ:=Qh (gc (sa:=true) (sb:=sb) (x:=x) HY.out (.inr HR0.out));(try clear sc sf sr sz);have hRB:w.heap.size+1+1≤w.heap.size+1+1+1+1:=by omega
  go_region_held3 (fun w'=>Sees (w.heap.size+1+1) W0 w') (first | exact Sees.of (Nat.le_trans hRB hs0) (by assumption) | exact Sees.of (Nat.le_trans hRB hs0) (af (by assumption) _) | exact (Sees.set (Sees.of (Nat.le_trans hRB hs0) (by assumption)) (by simp)) | exact (Sees.set (Sees.set (Sees.of (Nat.le_trans hRB hs0) (by assumption)) (by simp)) (by simp)) | exact (Sees.set (Sees.set (Sees.set (Sees.of (Nat.le_trans hRB hs0) (by assumption)) (by simp)) (by simp)) (by simp)) | exact (Sees.set (Sees.set (Sees.set (Sees.set (Sees.of (Nat.le_trans hRB hs0) (by assumption)) (by simp)) (by simp)) (by simp)) (by simp)))
   (first
    | (go_at_call 121;(with_reducible refine (eU _ b A n c l true ?_ ?_ ?_).mono ?_);(exact wa);(omega);(exact HS.out.1);rintro e w5 ⟨rfl,hb5⟩;replace hb5:=ah (af (aa _) 1) hb5;have r5:=ah r4 hb5;replace wa:=wa.belw hb5;replace wb:=wb.belw hb5;replace h1:=h1.belw hb5;replace h2:=h2.belw hb5;replace h3:=h3.belw hb5;replace h4:=h4.belw hb5)
    | (go_at_call 121;(with_reducible refine (eU _ b' A' n' c' l' sb ?_ ?_ ?_).mono ?_);(exact wb);(omega);(exact HS.out.2);rintro e w6 ⟨rfl,hb6⟩;have r6:=ah r5 hb6;replace wa:=wa.belw hb6;replace wb:=wb.belw hb6;replace h1:=h1.belw hb6;replace h2:=h2.belw hb6;replace h3:=h3.belw hb6;replace h4:=h4.belw hb6)
    | (go_at_call 140;(with_reducible refine (cR _ (!sb) A3 n3 c3 (am (x / y)) (sgn true x / sgn sb y) ?_ ?_ ?_).mono ?_);(exact h3);(omega);(rw [HZ.out.1,ag];cases sb <;> rfl);rintro e w7 ⟨A8,n8,c8,rfl,h8,hb7⟩;have r7:=ah r6 hb7;replace wa:=wa.belw hb7;replace wb:=wb.belw hb7;replace h1:=h1.belw hb7;replace h2:=h2.belw hb7;replace h3:=h3.belw hb7;replace h4:=h4.belw hb7)
    | (go_at_call 140;(with_reducible refine (cR _ false A4 0 c4 (am (x % y)) (sgn true x % sgn sb y) ?_ ?_ ?_).mono ?_);(exact h4);(omega);(rw [HZ.out.2,ag];rfl);rintro e w8 ⟨A9,n9,c9,rfl,h9,hb8⟩;have r8:=ah r7 hb8;replace wa:=wa.belw hb8;replace wb:=wb.belw hb8;replace h1:=h1.belw hb8;replace h2:=h2.belw hb8;replace h3:=h3.belw hb8;replace h4:=h4.belw hb8;replace h8:=h8.belw hb8;obtain ⟨⟨sc,sf⟩,sr,sz⟩:=bj.of (by omega) hs0 hm0 r8))
  clear hRB;go_wp2_with fail;refine bodyPost_ret (v:=.tuple #[.agg #[.bool _,.slice A8 n8 c8],.agg #[.bool _,.slice A9 n9 c9],.nilIface]) (by simp [results,Tryz.results139,go_sem,sr];first | rfl | exact ⟨rfl,rfl⟩) rfl ?_;have y2:=x2.below r8;have y3:=x3.below r8;refine ⟨A8,n8,c8,A9,n9,c9,rfl,?_,?_,?_⟩
  ·exact h8.keep (kp4 y2 y3 (by decide) (by decide) _ _ _ _ _ _ _ _)
  ·exact h9.keep (kp4 y2 y3 (by decide) (by decide) _ _ _ _ _ _ _ _)
  exact ((((b0.trans (r8.mono b0.size)).setCell (by dsimp only;omega) _).setCell (by dsimp only;omega) _).setCell (by dsimp only;omega) _).setCell (by dsimp only;omega) _
 have HR0:=Qh hr0
 have hn40:0 < n4:=by
  rcases Nat.eq_zero_or_pos n4 with e | e
  ·exfalso
   have h9:=h4.2.1;rw [e] at h9;exact hr0 (aP.1 (List.eq_nil_of_length_eq_zero h9.symm))
  exact e
 have e2:decide (0 < n4)=true:=by simp [hn40]
 clear hr0
 go_wp2_with (first
  | (go_at_call 121;(with_reducible refine (eU _ b A n c l true ?_ ?_ ?_).mono ?_);(exact wa);(omega);(exact HS.out.1);rintro e w4 ⟨rfl,hb4⟩;have r4:=ah r3 hb4;replace wa:=wa.belw hb4;replace wb:=wb.belw hb4;replace h1:=h1.belw hb4;replace h2:=h2.belw hb4;replace h3:=h3.belw hb4;replace h4:=h4.belw hb4;(try clear sc sf sr sz);obtain ⟨⟨sc,sf⟩,sr,sz⟩:=bj.of (by omega) hs0 hm0 r4)
  | (go_at_call 141;(with_reducible refine (yy _ A3 n3 c3 (am (x / y)) ?_ ?_ (some ⟨w4.heap.size,0,none⟩) 1 1 [1] ?_ ?_ (x / y+1) ?_).mono ?_);(exact (h3.keep ((Kp.refl _).alloc _)));(omega);(exact nM _ _ _ rfl (by decide));(omega);(rw [ag];rfl);rintro e w5 ⟨A5,n5,c5,rfl,h5,hb5⟩;replace hb5:=((Below.refl _ _).alloc Qr _).trans (hb5.mono (by simp));have r5:=ah r4 hb5;replace wa:=wa.belw hb5;replace wb:=wb.belw hb5;replace h1:=h1.belw hb5;replace h2:=h2.belw hb5;replace h3:=h3.belw hb5;replace h4:=h4.belw hb5;(try clear sc sf sr sz);obtain ⟨⟨sc,sf⟩,sr,sz⟩:=bj.of (by omega) hs0 hm0 r5)
  | (go_at_call 142;(with_reducible refine (yz _ A1 n1 c1 (WD.m ⟨b',l'⟩) ?_ ?_ A4 n4 c4 (am (x % y)) ?_ ?_ ?_ (y - x % y) ?_).mono ?_);(exact h1);(omega);(exact h4);(exact hn4);(rw [ag,HX.out.2];exact Nat.le_of_lt HR.out);(rw [ag,HX.out.2]);rintro e w6 ⟨A6,n6,c6,rfl,h6,hb6⟩;have r6:=ah r5 hb6;replace wa:=wa.belw hb6;replace wb:=wb.belw hb6;replace h1:=h1.belw hb6;replace h2:=h2.belw hb6;replace h3:=h3.belw hb6;replace h4:=h4.belw hb6;replace h5:=h5.belw hb6;(try clear sc sf sr sz);obtain ⟨⟨sc,sf⟩,sr,sz⟩:=bj.of (by omega) hs0 hm0 r6))
 have hn5:n5≤1099511627001:=by rw [h5.2.1];exact tP h3 hn3
 have hn6:n6≤n1:=by rw [h6.2.1];exact pt (Nat.lt_of_le_of_lt (Nat.sub_le _ _) (HX.out.2 ▸ h1.vlt Qr)) Qr
 have HZ:=Qh (wG (sb:=sb) (x:=x) HY.out HR0.out);(try clear sc sf sr sz);have hRB:w.heap.size+1+1≤w.heap.size+1+1+1+1:=by omega
 go_region_held3 (fun w'=>Sees (w.heap.size+1+1) W0 w') (first | exact Sees.of (Nat.le_trans hRB hs0) (by assumption) | exact Sees.of (Nat.le_trans hRB hs0) (af (by assumption) _) | exact (Sees.set (Sees.of (Nat.le_trans hRB hs0) (by assumption)) (by simp)) | exact (Sees.set (Sees.set (Sees.of (Nat.le_trans hRB hs0) (by assumption)) (by simp)) (by simp)) | exact (Sees.set (Sees.set (Sees.set (Sees.of (Nat.le_trans hRB hs0) (by assumption)) (by simp)) (by simp)) (by simp)) | exact (Sees.set (Sees.set (Sees.set (Sees.set (Sees.of (Nat.le_trans hRB hs0) (by assumption)) (by simp)) (by simp)) (by simp)) (by simp)))
  (first
   | (go_at_call 121;(with_reducible refine (eU _ b A n c l true ?_ ?_ ?_).mono ?_);(exact wa);(omega);(exact HS.out.1);rintro e w7 ⟨rfl,hb7⟩;replace hb7:=ah (af (aa _) 1) hb7;have r7:=ah r6 hb7;replace wa:=wa.belw hb7;replace wb:=wb.belw hb7;replace h1:=h1.belw hb7;replace h2:=h2.belw hb7;replace h3:=h3.belw hb7;replace h4:=h4.belw hb7;replace h5:=h5.belw hb7;replace h6:=h6.belw hb7)
   | (go_at_call 121;(with_reducible refine (eU _ b' A' n' c' l' sb ?_ ?_ ?_).mono ?_);(exact wb);(omega);(exact HS.out.2);rintro e w8 ⟨rfl,hb8⟩;have r8:=ah r7 hb8;replace wa:=wa.belw hb8;replace wb:=wb.belw hb8;replace h1:=h1.belw hb8;replace h2:=h2.belw hb8;replace h3:=h3.belw hb8;replace h4:=h4.belw hb8;replace h5:=h5.belw hb8;replace h6:=h6.belw hb8)
   | (go_at_call 140;(with_reducible refine (cR _ (!sb) A5 n5 c5 (am (x / y+1)) (sgn true x / sgn sb y) ?_ ?_ ?_).mono ?_);(exact h5);(omega);(rw [HZ.out.1,ag];cases sb <;> rfl);rintro e w9 ⟨A8,n8,c8,rfl,h8,hb9⟩;have r9:=ah r8 hb9;replace wa:=wa.belw hb9;replace wb:=wb.belw hb9;replace h1:=h1.belw hb9;replace h2:=h2.belw hb9;replace h3:=h3.belw hb9;replace h4:=h4.belw hb9;replace h5:=h5.belw hb9;replace h6:=h6.belw hb9)
   | (go_at_call 140;(with_reducible refine (cR _ false A6 n6 c6 (am (y - x % y)) (sgn true x % sgn sb y) ?_ ?_ ?_).mono ?_);(exact h6);(omega);(rw [HZ.out.2,ag];rfl);rintro e w10 ⟨A9,n9,c9,rfl,h9,hb10⟩;have r10:=ah r9 hb10;replace wa:=wa.belw hb10;replace wb:=wb.belw hb10;replace h1:=h1.belw hb10;replace h2:=h2.belw hb10;replace h3:=h3.belw hb10;replace h4:=h4.belw hb10;replace h5:=h5.belw hb10;replace h6:=h6.belw hb10;replace h8:=h8.belw hb10;obtain ⟨⟨sc,sf⟩,sr,sz⟩:=bj.of (by omega) hs0 hm0 r10))
 clear hRB;go_wp2_with fail;refine bodyPost_ret (v:=.tuple #[.agg #[.bool _,.slice A8 n8 c8],.agg #[.bool _,.slice A9 n9 c9],.nilIface]) (by simp [results,Tryz.results139,go_sem,sr];first | rfl | exact ⟨rfl,rfl⟩) rfl ?_;have y2:=x2.below r10;have y3:=x3.below r10;refine ⟨A8,n8,c8,A9,n9,c9,rfl,?_,?_,?_⟩
 ·exact h8.keep (kp4 y2 y3 (by decide) (by decide) _ _ _ _ _ _ _ _)
 ·exact h9.keep (kp4 y2 y3 (by decide) (by decide) _ _ _ _ _ _ _ _)
 exact ((((b0.trans (r10.mono b0.size)).setCell (by dsimp only;omega) _).setCell (by dsimp only;omega) _).setCell (by dsimp only;omega) _).setCell (by dsimp only;omega) _

theorem iB (w:World) (g:Nat) (hg:g=w.heap.size) (z1 z2:Int) (v:Nat) (h1:z1=((v % 4294967296:Nat):Int)) (h2:z2=((v / 4294967296:Nat):Int)) (hv:v < 18446744073709551616) :
 Wd (w.alloc (.cells #[.int .u32 z1,.int .u32 z2] 173)) (some ⟨g,0,none⟩) 2 2 [v % 4294967296,v / 4294967296]:=by
 subst h1 h2 hg;exact (Blk.new w 173 (cellsOf [v % 4294967296,v / 4294967296])).wdN (by intro y hy;simp at hy;omega) rfl
theorem Bk (w:World) (i:Int) (h0:-9223372036854775808≤i) (h1:i < 9223372036854775808) :
 Calls Tryz.prog 122 #[.int .i64 i] w (ia w (wh i)):=by
 obtain ⟨v,hv⟩:∃ v:Nat,v=i.natAbs:=⟨_,rfl⟩;have hv2:v < 18446744073709551616:=by omega
 have hval:val [v % 4294967296,v / 4294967296]=v:=by simp [val];omega
 have HV:=Qh hval;by_cases hneg:i < 0
 ·have e1:IntKind.u64.wrap i=i+18446744073709551616:=by unfold IntKind.wrap;simp [IntKind.bits,IntKind.signed];omega
  have e2:IntKind.u64.wrap (-(i+18446744073709551616))=(v:Int):=by unfold IntKind.wrap;simp [IntKind.bits,IntKind.signed];omega
  have e3:decide (i < 0)=true:=by simp;omega
  have e4:IntKind.u32.wrap (v:Int)=((v % 4294967296:Nat):Int):=by unfold IntKind.wrap;simp [IntKind.bits,IntKind.signed]
  have e5:IntKind.u32.wrap ((v:Int) / 4294967296)=((v / 4294967296:Nat):Int):=by unfold IntKind.wrap;simp [IntKind.bits,IntKind.signed];omega
  have HZ:=Qh (show sgn true v=i by simp [sgn];omega);have HV2:=Qh hv2;clear hv hval hv2 hneg h0 h1;go_in;go_wp2_with (go_at_call 140;(with_reducible refine (cR _ true (some ⟨w.heap.size+1,0,none⟩) 2 2 [v % 4294967296,v / 4294967296] i ?_ ?_ ?_).mono ?_);(exact iB (w.alloc _) _ (by simp) _ _ v (by simp) (by simp) HV2.out);(omega);(rw [HV.out];exact HZ.out);rintro e w1 ⟨A1,n1,c1,rfl,h1,hb⟩;obtain ⟨hc,hf⟩:=bS hb);have hc0:w1.cell? ⟨w.heap.size,0,none⟩=some (.bool false):=(hc w.heap.size 0 (by simp;omega)).trans (by simp [go_sem]);have hc1:w1.cell? ⟨w.heap.size,1,none⟩=some (.slice none 0 0):=(hc w.heap.size 1 (by simp;omega)).trans (by simp [go_sem]);refine bodyPost_ret (v:=.agg #[.bool _,.slice A1 n1 c1]) (by simp [results,Tryz.results122,go_sem,hc0,hc1];rfl) rfl ?_;have x:=((bG w #[.bool false,.slice none 0 0] 134 rfl).alloc _).below hb;refine jB ?_ ?_ ?_
  ·rfl
  ·exact h1.keep (kp2 x (by decide) _ _ _ _)
  exact ((((((Below.refl _ _).alloc Qr _).alloc (by simp) _).trans (hb.mono (by simp;omega)))).setCell (by dsimp only;omega) _).setCell (by dsimp only;omega) _
 have e1:IntKind.u64.wrap i=(v:Int):=by unfold IntKind.wrap;simp [IntKind.bits,IntKind.signed];omega
 have e3:decide (i < 0)=false:=by simp;omega
 have e4:IntKind.u32.wrap (v:Int)=((v % 4294967296:Nat):Int):=by unfold IntKind.wrap;simp [IntKind.bits,IntKind.signed]
 have e5:IntKind.u32.wrap ((v:Int) / 4294967296)=((v / 4294967296:Nat):Int):=by unfold IntKind.wrap;simp [IntKind.bits,IntKind.signed];omega
 have HZ:=Qh (show sgn false v=i by simp [sgn];omega);have HV2:=Qh hv2;clear hv hval hv2 hneg h0 h1;go_in;go_wp2_with (go_at_call 140;(with_reducible refine (cR _ false (some ⟨w.heap.size+1,0,none⟩) 2 2 [v % 4294967296,v / 4294967296] i ?_ ?_ ?_).mono ?_);(exact iB (w.alloc _) _ (by simp) _ _ v (by simp) (by simp) HV2.out);(omega);(rw [HV.out];exact HZ.out);rintro e w1 ⟨A1,n1,c1,rfl,h1,hb⟩;obtain ⟨hc,hf⟩:=bS hb);have hc0:w1.cell? ⟨w.heap.size,0,none⟩=some (.bool false):=(hc w.heap.size 0 (by simp;omega)).trans (by simp [go_sem]);have hc1:w1.cell? ⟨w.heap.size,1,none⟩=some (.slice none 0 0):=(hc w.heap.size 1 (by simp;omega)).trans (by simp [go_sem]);refine bodyPost_ret (v:=.agg #[.bool _,.slice A1 n1 c1]) (by simp [results,Tryz.results122,go_sem,hc0,hc1];rfl) rfl ?_;have x:=((bG w #[.bool false,.slice none 0 0] 134 rfl).alloc _).below hb;refine jB ?_ ?_ ?_
 ·rfl
 ·exact h1.keep (kp2 x (by decide) _ _ _ _)
 exact ((((((Below.refl _ _).alloc Qr _).alloc (by simp) _).trans (hb.mono (by simp;omega)))).setCell (by dsimp only;omega) _).setCell (by dsimp only;omega) _

def IZ (w:World) (b:Bool) (A:Option Addr) (n c:Nat) (z:Int) (k:Nat):Prop:=∃ l,Wd w A n c l∧WD.z ⟨b,l⟩=z∧n≤k
def IV (w:World) (b:Bool) (A:Option Addr) (n c:Nat) (z:Int) (k:Nat):Prop:=b=(wh z).neg∧Wd w A n c (wh z).mag∧n≤k
def QD (w:World) (b:Bool) (A:Option Addr) (n c:Nat) (A':Option Addr) (n' c':Nat) (a:RD) (k:Nat):Prop:=a.neg=b∧Wd w A n c a.num∧Wd w A' n' c' a.den∧n≤k∧n'≤k
def QZ (w:World) (b:Bool) (A:Option Addr) (n c:Nat) (A':Option Addr) (n' c':Nat) (q:Rat) (k:Nat):Prop:=∃ a,QD w b A n c A' n' c' a k∧a.q=q
def QV (w:World) (b:Bool) (A:Option Addr) (n c:Nat) (A':Option Addr) (n' c':Nat) (q:Rat) (k:Nat):Prop:=QD w b A n c A' n' c' (rd q) k
section
variable {w w':World}{b:Bool}{A A':Option Addr}{n c n' c' k j:Nat}{z:Int}{q:Rat}{a:RD}
theorem IV.iz (h:IV w b A n c z k):IZ w b A n c z k:=by
 obtain ⟨rfl,h1,h2⟩:=h;exact ⟨_,h1,Be z,h2⟩
theorem IZ.belw (h:IZ w b A n c z k) (hb:Below w.heap.size w w'):IZ w' b A n c z k:=by
 obtain ⟨l,h1,h2,h3⟩:=h;exact ⟨l,h1.belw hb,h2,h3⟩
theorem IV.belw (h:IV w b A n c z k) (hb:Below w.heap.size w w'):IV w' b A n c z k:=⟨h.1,h.2.1.belw hb,h.2.2⟩
theorem IZ.keep (h:IZ w b A n c z k) (hb:Kp w w'):IZ w' b A n c z k:=by
 obtain ⟨l,h1,h2,h3⟩:=h;exact ⟨l,h1.keep hb,h2,h3⟩
theorem IV.keep (h:IV w b A n c z k) (hb:Kp w w'):IV w' b A n c z k:=⟨h.1,h.2.1.keep hb,h.2.2⟩
theorem IZ.mono (h:IZ w b A n c z k) (hk:k≤j):IZ w b A n c z j:=by
 obtain ⟨l,h1,h2,h3⟩:=h;exact ⟨l,h1,h2,Nat.le_trans h3 hk⟩
theorem IV.mono (h:IV w b A n c z k) (hk:k≤j):IV w b A n c z j:=⟨h.1,h.2.1,Nat.le_trans h.2.2 hk⟩
theorem QD.belw (h:QD w b A n c A' n' c' a k) (hb:Below w.heap.size w w'):QD w' b A n c A' n' c' a k:=⟨h.1,h.2.1.belw hb,h.2.2.1.belw hb,h.2.2.2⟩
theorem QD.keep (h:QD w b A n c A' n' c' a k) (hb:Kp w w'):QD w' b A n c A' n' c' a k:=⟨h.1,h.2.1.keep hb,h.2.2.1.keep hb,h.2.2.2⟩
theorem QD.mono (h:QD w b A n c A' n' c' a k) (hk:k≤j):QD w b A n c A' n' c' a j:=⟨h.1,h.2.1,h.2.2.1,Nat.le_trans h.2.2.2.1 hk,Nat.le_trans h.2.2.2.2 hk⟩
theorem QD.qz (h:QD w b A n c A' n' c' a k):QZ w b A n c A' n' c' a.q k:=⟨a,h,rfl⟩
theorem QZ.belw (h:QZ w b A n c A' n' c' q k) (hb:Below w.heap.size w w'):QZ w' b A n c A' n' c' q k:=by
 obtain ⟨a,h1,h2⟩:=h;exact ⟨a,h1.belw hb,h2⟩
theorem QZ.keep (h:QZ w b A n c A' n' c' q k) (hb:Kp w w'):QZ w' b A n c A' n' c' q k:=by
 obtain ⟨a,h1,h2⟩:=h;exact ⟨a,h1.keep hb,h2⟩
theorem QZ.mono (h:QZ w b A n c A' n' c' q k) (hk:k≤j):QZ w b A n c A' n' c' q j:=by
 obtain ⟨a,h1,h2⟩:=h;exact ⟨a,h1.mono hk,h2⟩
theorem QV.qz (h:QV w b A n c A' n' c' q k):QZ w b A n c A' n' c' q k:=⟨_,h,yi q⟩
theorem QV.belw (h:QV w b A n c A' n' c' q k) (hb:Below w.heap.size w w'):QV w' b A n c A' n' c' q k:=QD.belw h hb
theorem QV.keep (h:QV w b A n c A' n' c' q k) (hb:Kp w w'):QV w' b A n c A' n' c' q k:=QD.keep h hb
theorem QV.mono (h:QV w b A n c A' n' c' q k) (hk:k≤j):QV w b A n c A' n' c' q j:=QD.mono h hk
theorem WD.z_lt {l:List Nat}(h:Wd w A n c l) (hk:n≤k):(WD.z ⟨b,l⟩).natAbs < 4294967296 ^ k:=by
 have h1:=h.vlt hk;have h2:=fG k;unfold WD.z;split
 ·simp only;split <;> omega
 simpa using h2
theorem IZ.lt (h:IZ w b A n c z k):z.natAbs < 4294967296 ^ k:=by
 obtain ⟨l,h1,rfl,h3⟩:=h;exact WD.z_lt h1 h3
theorem QD.sz (h:QD w b A n c A' n' c' a k) (hk:0 < k):Sz a.q k:=by
 have e1:=RD.q_num h.2.1.1 h.2.2.1.1;have e2:=RD.q_den h.2.1.1 h.2.2.1.1;have h1:=h.2.1.vlt h.2.2.2.1;have h2:=h.2.2.1.vlt h.2.2.2.2;have h3:1 < 4294967296 ^ k:=Nat.one_lt_pow (by omega) (by omega);unfold Sz;rw [e1,e2];refine ⟨?_,?_⟩
 ·unfold RD.n
  split
  ·split <;> omega
  simp;omega
 unfold RD.d;split <;> omega
theorem QZ.sz (h:QZ w b A n c A' n' c' q k) (hk:0 < k):Sz q k:=by
 obtain ⟨a,h1,rfl⟩:=h;exact h1.sz hk
theorem QV.mk_ (h1:Wd w A n c (rd q).num) (h2:Wd w A' n' c' (rd q).den) (hb:(rd q).neg=b) (hs:Sz q k):QV w b A n c A' n' c' q k:=by
 refine ⟨hb,h1,h2,?_,?_⟩
 ·rw [h1.2.1];exact ar hs.1
 rw [h2.2.1];unfold rd;simp only;split
 ·simp
 exact ar hs.2
theorem IV.mk_ (h:Wd w A n c (wh z).mag) (hb:b=(wh z).neg) (hs:z.natAbs < 4294967296 ^ k):IV w b A n c z k :=
 ⟨hb,h,by rw [h.2.1];exact ar hs⟩
end
def jE (w:World) (z:Int) (k:Nat) (e:Ending) (w':World):Prop:=∃ b A n c,e=.returned (.agg #[.bool b,.slice A n c])∧IV w' b A n c z k∧Below w.heap.size w w'
def wH (w:World) (q:Rat) (k:Nat) (e:Ending) (w':World):Prop:=∃ b A n c A' n' c',e=.returned (.agg #[.bool b,.slice A n c,.slice A' n' c'])∧QV w' b A n c A' n' c' q k∧Below w.heap.size w w'
def tQ (w:World) (z z':Int) (k:Nat) (e:Ending) (w':World):Prop:=∃ b A n c b' A' n' c',e=.returned (.tuple #[.agg #[.bool b,.slice A n c],.agg #[.bool b',.slice A' n' c']])∧IV w' b A n c z k∧IV w' b' A' n' c' z' k∧Below w.heap.size w w'
def xU (w:World) (v:Value) (z z':Int) (k:Nat) (e:Ending) (w':World):Prop:=∃ b A n c b' A' n' c',e=.returned (.tuple #[.agg #[.bool b,.slice A n c],.agg #[.bool b',.slice A' n' c'],v])∧IV w' b A n c z k∧IV w' b' A' n' c' z' k∧Below w.heap.size w w'
def iC (w:World) (v:Value) (q:Rat) (k:Nat) (e:Ending) (w':World):Prop:=∃ b A n c A' n' c',e=.returned (.tuple #[.agg #[.bool b,.slice A n c,.slice A' n' c'],v])∧QV w' b A n c A' n' c' q k∧Below w.heap.size w w'
theorem pH {a b K:Nat}(ha:a < K) (hb:b < K):Nat.gcd a b < K:=by
 rcases Nat.eq_zero_or_pos a with rfl | h
 ·simpa using hb
 exact Nat.lt_of_le_of_lt (Nat.gcd_le_left _ h) ha
theorem ia.i {w w':World}{z:Int}{k:Nat}{e:Ending}(h:ia w (wh z) e w') (hs:z.natAbs < 4294967296 ^ k):jE w z k e w':=by
 obtain ⟨A,n,c,rfl,h1,h2⟩:=h;exact ⟨_,A,n,c,rfl,IV.mk_ h1 rfl hs,h2⟩
section
variable (w:World) (b A n c z k) (h:IZ w b A n c z k) (b' A' n' c' z' k') (h':IZ w b' A' n' c' z' k')
include h
theorem qM (hk:k≤1000000000):Calls Tryz.prog 115 #[.agg #[.bool b,.slice A n c]] w (jE w (-z) k):=by
 have hz:=h.lt;obtain ⟨l,h1,rfl,h3⟩:=h;exact (zL w b A n c l h1 (by omega)).mono fun _ _ r=>r.i (by omega)
theorem yC (hk:k≤1000000000):Calls Tryz.prog 118 #[.agg #[.bool b,.slice A n c]] w (aB w (.int .i64 z.sign)):=by
 obtain ⟨l,h1,rfl,h3⟩:=h;exact tD w b A n c l h1 (by omega)
include h'
theorem zV (hk:k+k'≤1000000000):Calls Tryz.prog 99 #[.agg #[.bool b,.slice A n c],.agg #[.bool b',.slice A' n' c']] w (jE w (z+z') (k+k'+1)):=by
 have hz:=h.mono (Nat.le_add_right k k') |>.lt
 have hz':=h'.mono (Nat.le_add_left k' k) |>.lt
 obtain ⟨l,h1,rfl,h3⟩:=h;obtain ⟨l',h1',rfl,h3'⟩:=h';exact (zJ w b A n c l h1 (by omega) b' A' n' c' l' h1' (by omega)).mono fun _ _ r=>r.i (gW hz hz')
theorem nO (hk:k+k'≤1000000000):Calls Tryz.prog 100 #[.agg #[.bool b,.slice A n c],.agg #[.bool b',.slice A' n' c']] w (jE w (z * z') (k+k')):=by
 have hz:=h.lt;have hz':=h'.lt;obtain ⟨l,h1,rfl,h3⟩:=h;obtain ⟨l',h1',rfl,h3'⟩:=h';exact (zM w b A n c l h1 (by omega) b' A' n' c' l' h1' (by omega)).mono fun _ _ r=>r.i (dj hz hz')
theorem tR (hk:k+k'≤1000000000):Calls Tryz.prog 83 #[.agg #[.bool b,.slice A n c],.agg #[.bool b',.slice A' n' c']] w (aB w (.int .i64 (eI z z'))):=by
 obtain ⟨l,h1,rfl,h3⟩:=h;obtain ⟨l',h1',rfl,h3'⟩:=h';exact zN w b A n c l h1 (by omega) b' A' n' c' l' h1' (by omega)
theorem xV (hk:k+k'≤1000000000):Calls Tryz.prog 137 #[.agg #[.bool b,.slice A n c],.agg #[.bool b',.slice A' n' c']] w (jE w (Nat.gcd z.natAbs z'.natAbs:Nat) (k+k')):=by
 have hz:=h.mono (Nat.le_add_right k k') |>.lt
 have hz':=h'.mono (Nat.le_add_left k' k) |>.lt
 obtain ⟨l,h1,rfl,h3⟩:=h;obtain ⟨l',h1',rfl,h3'⟩:=h';exact (zS w b A n c l h1 (by omega) b' A' n' c' l' h1' (by omega)).mono fun _ _ r=>r.i (by simpa using pH hz hz')
theorem xW (hk:k+k'≤1000000000) (h0:z'≠0):Calls Tryz.prog 139 #[.agg #[.bool b,.slice A n c],.agg #[.bool b',.slice A' n' c']] w (xU w .nilIface (z / z') (z % z') (k+k')):=by
 have hz:=h.mono (Nat.le_add_right k k') |>.lt
 have hz':=h'.mono (Nat.le_add_left k' k) |>.lt
 obtain ⟨l,h1,rfl,h3⟩:=h;obtain ⟨l',h1',rfl,h3'⟩:=h';refine (zU w b A n c l h1 (by omega) b' A' n' c' l' h1' (by omega) h0).mono fun _ _ r=>?_
 obtain ⟨A1,n1,c1,A2,n2,c2,rfl,r1,r2,r3⟩:=r;refine ⟨_,A1,n1,c1,_,A2,n2,c2,rfl,IV.mk_ r1 rfl ?_,IV.mk_ r2 rfl ?_,r3⟩
 ·exact Nat.lt_of_le_of_lt (Int.natAbs_ediv_le_natAbs _ _) hz
 have e1:=Int.emod_nonneg (WD.z ⟨b,l⟩) h0;have e2:=Int.emod_lt (WD.z ⟨b,l⟩) h0;omega
end
theorem Bl (w:World) (i:Int) (k:Nat) (h0:-9223372036854775808≤i) (h1:i < 9223372036854775808) (hs:i.natAbs < 4294967296 ^ k):Calls Tryz.prog 122 #[.int .i64 i] w (jE w i k) :=
 (Bk w i h0 h1).mono fun _ _ r=>r.i hs
theorem zW (w:World) (i:Int) (h0:-4294967296 < i) (h1:i < 4294967296):Calls Tryz.prog 122 #[.int .i64 i] w (jE w i 1):=Bl w i 1 (by omega) (by omega) (by omega)
theorem IZ.zero (w:World):IZ w false none 0 0 0 0:=⟨[],Wd.nil_ w,by simp [WD.z,WD.ok,val],Qr⟩
theorem QZ.zero (w:World):QZ w false none 0 0 none 0 0 0 1:=⟨⟨false,[],[]⟩,⟨rfl,Wd.nil_ w,Wd.nil_ w,by omega,by omega⟩,by have:=yi 0;rw [mp] at this;exact this⟩
theorem QV.zero (w:World) (k:Nat):QV w false none 0 0 none 0 0 0 k:=by
 unfold QV;rw [mp];exact ⟨rfl,Wd.nil_ w,Wd.nil_ w,by omega,by omega⟩
theorem IV.zero (w:World) (k:Nat):IV w false none 0 0 0 k:=⟨rfl,by have:(wh 0).mag=[]:=av;rw [this];exact Wd.nil_ w,by omega⟩
theorem ak (w:World) (c:Array Value) (t:TypeId) {g:Nat}(h:g=w.heap.size):Blk (w.alloc (.cells c t)) g t c:=by subst h;exact Blk.new w t c
theorem Blk.set_at {w:World}{g:Nat}{t:TypeId}{cs:Array Value}(h:Blk w g t cs) (i:Nat) (v:Value) (cs':Array Value) (e:cs.setIfInBounds i v=cs'):Blk (w.setCell ⟨g,i,none⟩ v) g t cs':=by subst e;exact h.set_ i v
theorem Blk.box {w:World}{g:Nat}{t:TypeId}{c:Array Value}(h:Blk w g t c) (hc:noU c=true:=by rfl):Box w g t:=⟨c,_,h,hc⟩
abbrev SeesX (G g:Nat) (W0 W:World):Prop:=((∀ b o,b < G→b≠g→W.cell? ⟨b,o,none⟩=W0.cell? ⟨b,o,none⟩)∧(∀ b o,b < G→W.frozen? ⟨b,o,none⟩=W0.frozen? ⟨b,o,none⟩))∧G≤W.heap.size
theorem SeesX.of {G g:Nat}{W0 W:World}(h:G≤W0.heap.size) (hb:Below W0.heap.size W0 W):SeesX G g W0 W :=
 ⟨⟨fun b o hlt _=>(bS hb).1 b o (Nat.lt_of_lt_of_le hlt h),fun b o hlt=>(bS hb).2 b o (Nat.lt_of_lt_of_le hlt h)⟩,Nat.le_trans h hb.size⟩
theorem SeesX.set {G g:Nat}{W0 W:World}(h:SeesX G g W0 W) {i:Nat}{u:Value}:SeesX G g W0 (W.setCell ⟨g,i,none⟩ u):=by
 refine ⟨⟨fun b o hlt hne=>?_,fun b o hlt=>?_⟩,?_⟩
 ·rw [← h.1.1 b o hlt hne];unfold World.cell?;rw [Below.heap_setCell _ _ _ b hne]
 ·rw [← h.1.2 b o hlt];exact World.frozen?_setCell ..
 have:=h.2;simp [World.setCell];exact this
theorem xX (i:Int):Rat.divInt i 1=(i:Rat):=by have:=tp (i:Rat);simpa using this.symm
theorem sign3 (z:Int):z=0∨z.sign=1∨z.sign=-1:=by
 rcases Int.lt_trichotomy z 0 with h | h | h
 ·exact .inr (.inr (Int.sign_eq_neg_one_of_neg h))
 ·exact .inl h
 exact .inr (.inl (Int.sign_eq_one_of_pos h))
theorem nP {z:Int}(h:z.sign=1):0 < z:=Int.sign_eq_one_iff_pos.1 h
theorem lQ {z:Int}(h:z.sign=-1):0 < -z:=by have:=Int.sign_eq_neg_one_iff_neg.1 h;omega
theorem tS {a b:Int}(h:0 < b):((Nat.gcd a.natAbs b.natAbs:Nat):Int)≠0:=by
 have:0 < Nat.gcd a.natAbs b.natAbs:=Nat.gcd_pos_of_pos_right _ (by omega);omega
theorem ky {a:Int}(g:Nat) (h:0 < a):(wh (a / (g:Int))).mag=am (a.natAbs / g):=by
 have e:(a / (g:Int))=((a.natAbs / g:Nat):Int):=by
  rw [Int.natCast_ediv,Int.natAbs_of_nonneg (by omega)]
 rw [e];rfl
theorem tT {z d:Int}{q:Rat}(hz:z.sign=1) (hd:0 < d) (hq:Rat.divInt z d=q) :
 (rd q).num=(wh (z / ((Nat.gcd z.natAbs d.natAbs:Nat):Int))).mag∧(rd q).den=(wh (d / ((Nat.gcd z.natAbs d.natAbs:Nat):Int))).mag∧(rd q).neg=false:=by
 have hp:=nP hz;rw [← hq,jy (by omega) hd,ky _ hp,ky _ hd];exact ⟨rfl,rfl,by simp;omega⟩
theorem tU {z d:Int}{q:Rat}(hz:z.sign=-1) (hd:0 < d) (hq:Rat.divInt z d=q) :
 (rd q).num=(wh (-z / ((Nat.gcd z.natAbs d.natAbs:Nat):Int))).mag∧(rd q).den=(wh (d / ((Nat.gcd z.natAbs d.natAbs:Nat):Int))).mag∧(rd q).neg=true:=by
 have hp:=lQ hz;rw [← hq,jy (by omega) hd,ky _ hp,ky _ hd,Int.natAbs_neg];exact ⟨rfl,rfl,by simp;omega⟩
theorem fI (w:World) (b A n c z k) (h:IZ w b A n c z k) (s:Int) (hs:z.sign=s) (hk:k≤1000000000):Calls Tryz.prog 118 #[.agg #[.bool b,.slice A n c]] w (aB w (.int .i64 s)):=by
 subst hs;exact yC w b A n c z k h hk
theorem jF {P:Program}{c:Code}{Q:Exit→Act→World→Prop}{a:Act}{w:World}(h:∀ w6,w6=w→Code.wp P c Q a w6):Code.wp P c Q a w:=h w rfl
section
variable {W w w':World}{g gs t t0 t1 t2:Nat}{c0 c1 c2:Array Value}{a0 a1 a2:Value}
theorem Blk.v2 (h:Blk w g t #[a0,a1]):(w.cell? ⟨g,0,none⟩=some a0∧w.cell? ⟨g,1,none⟩=some a1)∧(w.frozen? ⟨g,0,none⟩=false∧w.frozen? ⟨g,1,none⟩=false)∧g < w.heap.size:=⟨h.c2,h.f2,h.lt⟩
theorem Blk.v3 (h:Blk w g t #[a0,a1,a2]):(w.cell? ⟨g,0,none⟩=some a0∧w.cell? ⟨g,1,none⟩=some a1∧w.cell? ⟨g,2,none⟩=some a2)∧(w.frozen? ⟨g,0,none⟩=false∧w.frozen? ⟨g,1,none⟩=false∧w.frozen? ⟨g,2,none⟩=false)∧g < w.heap.size:=⟨h.c3,h.f3,h.lt⟩
theorem Blk.k2 (h:Blk w g t #[a0,a1]) (hk:KT t=false) (u0 u1:Value) (hn:noU #[a0,a1]=true:=by rfl) (g0:rI u0=true:=by rfl):Kp w ((w.setCell ⟨g,0,none⟩ u0).setCell ⟨g,1,none⟩ u1):=((Kp.refl w).sb (g) 0 (h.box hn) hk u0).sb (g) 1 ((h.box hn).set ⟨g,0,none⟩ u0 g0) hk u1
theorem Blk.k3 (h:Blk w g t #[a0,a1,a2]) (hk:KT t=false) (u0 u1 u2:Value) (hn:noU #[a0,a1,a2]=true:=by rfl) (g0:rI u0=true:=by rfl) (g1:rI u1=true:=by rfl):Kp w (((w.setCell ⟨g,0,none⟩ u0).setCell ⟨g,1,none⟩ u1).setCell ⟨g,2,none⟩ u2):=(((Kp.refl w).sb (g) 0 (h.box hn) hk u0).sb (g) 1 ((h.box hn).set ⟨g,0,none⟩ u0 g0) hk u1).sb (g) 2 (((h.box hn).set ⟨g,0,none⟩ u0 g0).set ⟨g,1,none⟩ u1 g1) hk u2
structure B3 (W:World) (gs t0:Nat) (c0:Array Value) (t1:Nat) (c1:Array Value) (t2:Nat) (c2:Array Value) (w:World):Prop where
  s:Blk w gs t0 c0
  t:Blk w (gs+1) t1 c1
  r:Blk w (gs+1+1) t2 c2
  q:Below gs W w
theorem B3.call (h:B3 W gs t0 c0 t1 c1 t2 c2 w) (hb:Below w.heap.size w w'):B3 W gs t0 c0 t1 c1 t2 c2 w':=⟨h.s.below hb h.s.lt,h.t.below hb h.t.lt,h.r.below hb h.r.lt,h.q.trans (hb.mono (by have:=h.s.lt;omega))⟩
theorem B3.p0 (h:B3 W gs t0 #[a0,a1] t1 c1 t2 c2 w) (u0 u1:Value):B3 W gs t0 #[u0,u1] t1 c1 t2 c2 ((w.setCell ⟨gs,0,none⟩ u0).setCell ⟨gs,1,none⟩ u1) :=
 ⟨(h.s.set_ 0 u0).set_ 1 u1,(h.t.far (p:=⟨gs,0,none⟩) (by show gs+1≠gs;omega) u0).far (p:=⟨gs,1,none⟩) (by show gs+1≠gs;omega) u1,(h.r.far (p:=⟨gs,0,none⟩) (by show gs+1+1≠gs;omega) u0).far (p:=⟨gs,1,none⟩) (by show gs+1+1≠gs;omega) u1,(h.q.setCell (p:=⟨gs,0,none⟩) Qr u0).setCell (p:=⟨gs,1,none⟩) Qr u1⟩
theorem B3.p1 (h:B3 W gs t0 c0 t1 #[a0,a1] t2 c2 w) (u0 u1:Value):B3 W gs t0 c0 t1 #[u0,u1] t2 c2 ((w.setCell ⟨gs+1,0,none⟩ u0).setCell ⟨gs+1,1,none⟩ u1) :=
 ⟨(h.s.far (p:=⟨gs+1,0,none⟩) (by show gs≠gs+1;omega) u0).far (p:=⟨gs+1,1,none⟩) (by show gs≠gs+1;omega) u1,(h.t.set_ 0 u0).set_ 1 u1,(h.r.far (p:=⟨gs+1,0,none⟩) (by show gs+1+1≠gs+1;omega) u0).far (p:=⟨gs+1,1,none⟩) (by show gs+1+1≠gs+1;omega) u1,(h.q.setCell (p:=⟨gs+1,0,none⟩) (by show gs≤gs+1;omega) u0).setCell (p:=⟨gs+1,1,none⟩) (by show gs≤gs+1;omega) u1⟩
end
def sgz (z z':Int):Int:=if z' < 0 then -z else z
theorem nQ {z z':Int}{q:Rat}(h0:z≠0) (hd:z'≠0) (hq:Rat.divInt z z'=q):0 < sgz z' z'∧Rat.divInt (sgz z z') (sgz z' z')=q∧((sgz z z').sign=1∨(sgz z z').sign=-1):=by
 have hs:∀ x:Int,x≠0→x.sign=1∨x.sign=-1:=fun x hx=>by
  rcases sign3 x with h | h | h
  ·exact absurd h hx
  ·exact .inl h
  exact .inr h
 unfold sgz;split
 ·exact ⟨by omega,by rw [ko _ _ hd];exact hq,hs _ (by omega)⟩
 exact ⟨by omega,hq,hs _ h0⟩
theorem wI {y d:Int}{q:Rat}(hs:y.sign=1∨y.sign=-1) (hd:0 < d) (hq:Rat.divInt y d=q) :
 (rd q).num=(wh (sgz y y / ((Nat.gcd y.natAbs d.natAbs:Nat):Int))).mag∧(rd q).den=(wh (d / ((Nat.gcd y.natAbs d.natAbs:Nat):Int))).mag∧(rd q).neg=decide (y.sign < 0):=by
 unfold sgz;rcases hs with h | h
 ·rw [if_neg (by have:=nP h;omega),h];exact tT h hd hq
 rw [if_pos (by have:=lQ h;omega),h];exact tU h hd hq
theorem tV (w:World) (b A n c z k) (h:IZ w b A n c z k) (b' A' n' c' z' k') (h':IZ w b' A' n' c' z' k') (q:Rat) (K:Nat) (hd:z'≠0) (hq:Rat.divInt z z'=q) (hs:Sz q K) (hk:k+k'≤300000000) :
 Calls Tryz.prog 98 #[.agg #[.bool b,.slice A n c],.agg #[.bool b',.slice A' n' c']] w (wH w q K):=by
 have HD:=Qh hd;have HQ:=Qh hq;have HS:=Qh hs;obtain ⟨s,hs1⟩:∃ s,z.sign=s:=⟨_,rfl⟩;obtain ⟨s',hs2⟩:∃ s,z'.sign=s:=⟨_,rfl⟩;have H1:=Qh hs1;have H2:=Qh hs2;clear hd hq hs hs1 hs2;go_in;go_upto_region 1 with fail;refine jF ?_;intro w1 hw1;have k1:B3 w w.heap.size 134 #[.bool b,.slice A n c] 134 #[.bool b',.slice A' n' c'] 54 #[.bool false,.slice none 0 0,.slice none 0 0] w1:=by rw [hw1];exact ⟨((Blk.new w _ _).alloc _).alloc _,(ak _ _ _ (by simp)).alloc _,ak _ _ _ (by simp),(((aa w).alloc Qr _).alloc (by simp) _).alloc (by simp <;> omega) _⟩
 replace h:=h.belw k1.q;replace h':=h'.belw k1.q;clear hw1;have y:=k1.s.v2;go_wp2_with fail;(refine (fI _ b A n c z k h s H1.out (by omega)).mono ?_);rintro e w2 ⟨rfl,hb2⟩;replace k1:=k1.call hb2;replace h:=h.belw hb2;replace h':=h'.belw hb2;clear hb2 y;by_cases hz:z=0
 ·obtain rfl:s=0:=by rw [← H1.out,hz];rfl
  have hq0:q=0:=by rw [← HQ.out,hz,Rat.zero_divInt]
  subst hq0;have y:=k1.r.v3;go_wp2_with fail;refine bodyPost_ret (v:=.agg #[.bool false,.slice none 0 0,.slice none 0 0]) (by simp [results,Tryz.results98,go_sem, *] <;> trivial) rfl ?_;exact ⟨false,none,0,0,none,0,0,rfl,QV.zero _ _,((k1.q.setCell (p:=⟨w.heap.size+1+1,0,none⟩) (by show w.heap.size≤w.heap.size+1+1;omega) (.bool false)).setCell (p:=⟨w.heap.size+1+1,1,none⟩) (by show w.heap.size≤w.heap.size+1+1;omega) (.slice none 0 0)).setCell (p:=⟨w.heap.size+1+1,2,none⟩) (by show w.heap.size≤w.heap.size+1+1;omega) (.slice none 0 0)⟩
 obtain ⟨hp,hqq,hsg⟩:=nQ hz HD.out HQ.out;have HP:=Qh hp;have HQQ:=Qh hqq;have HSG:=Qh hsg;have u1:(s == 0)=false:=beq_eq_false_iff_ne.2 (by rw [← H1.out];exact fun e=>hz (Int.sign_eq_zero_iff_zero.1 e));have u2:(s=0)=False:=by simpa using u1
 clear hz hp hqq hsg HQ;have y:=k1.t.v2;go_wp2_with fail;(refine (fI _ b' A' n' c' z' k' h' s' H2.out (by omega)).mono ?_);rintro e w3 ⟨rfl,hb3⟩;replace k1:=k1.call hb3;replace h:=h.belw hb3;replace h':=h'.belw hb3;clear hb3 y;obtain ⟨y1,hy1⟩:∃ y,sgz z z'=y:=⟨_,rfl⟩;obtain ⟨y2,hy2⟩:∃ y,sgz z' z'=y:=⟨_,rfl⟩;rw [hy1] at HQQ HSG;rw [hy2] at HP HQQ;have HY1:=Qh hy1;have HY2:=Qh hy2;clear hy1 hy2;go_upto_if 13 with fail;go_cut [] (fun wx=>∃ b8 A8 n8 c8 b9 A9 n9 c9,B3 w w.heap.size 134 #[.bool b8,.slice A8 n8 c8] 134 #[.bool b9,.slice A9 n9 c9] 54 #[.bool false,.slice none 0 0,.slice none 0 0] wx∧IZ wx b8 A8 n8 c8 y1 k∧IZ wx b9 A9 n9 c9 y2 k')
 case first =>
  have y:=k1.s.v2;have y9:=k1.t.v2;by_cases hn:z' < 0
  ·obtain rfl:s'=-1:=by rw [← H2.out];exact Int.sign_eq_neg_one_iff_neg.2 hn
   obtain rfl:-z=y1:=by rw [← HY1.out];exact (if_pos hn).symm
   obtain rfl:-z'=y2:=by rw [← HY2.out];exact (if_pos hn).symm
   clear hn;go_wp2_with fail
   go_region_with (first
    | (go_at_call 115;(with_reducible refine (qM _ b A n c z k ?_ ?_).mono ?_);(first | exact h | exact h.belw (af (aa _) _) | fail);(omega);rintro e w5 ⟨b5,A5,n5,c5,rfl,h5,hb5⟩;replace hb5:=ah (af (aa _) 1) hb5;replace h':=h'.belw hb5;replace k1:=k1.call hb5;have y:=k1.s.v2;have y9:=k1.t.v2)
    | (go_at_call 115;(with_reducible refine (qM _ b' A' n' c' z' k' ?_ ?_).mono ?_);(exact h');(omega);rintro e w6 ⟨b6,A6,n6,c6,rfl,h6,hb6⟩;replace h5:=h5.belw hb6;replace k1:=k1.call hb6;have y:=k1.s.v2;have y9:=k1.t.v2))
   all_goals
    go_wp2_with fail;go_meet;exact ⟨_,_,_,_,_,_,_,_,(k1.p0 _ _).p1 _ _,h5.iz.keep ((k1.s.k2 (by decide) _ _).trans ((k1.p0 _ _).t.k2 (by decide) _ _)),h6.iz.keep ((k1.s.k2 (by decide) _ _).trans ((k1.p0 _ _).t.k2 (by decide) _ _))⟩
  have hp:0 < z':=by have:=HD.out;omega
  obtain rfl:s'=1:=by rw [← H2.out];exact Int.sign_eq_one_iff_pos.2 hp
  obtain rfl:z=y1:=by rw [← HY1.out];exact (if_neg hn).symm
  obtain rfl:z'=y2:=by rw [← HY2.out];exact (if_neg hn).symm
  clear hn hp;go_wp2_with fail;go_meet;exact ⟨_,_,_,_,_,_,_,_,k1,h,h'⟩
 case rest =>
  clear k1 h h' HY1 HY2;obtain ⟨b8,A8,n8,c8,b9,A9,n9,c9,k1,h8,h9⟩:=hcut;rename World=>w7;have y:=And.intro k1.s.v2 k1.t.v2;go_wp2_with fail;(refine (xV _ b8 A8 n8 c8 y1 k h8 b9 A9 n9 c9 y2 k' h9 (by omega)).mono ?_);rintro e w8 ⟨b3,A3,n3,c3,rfl,h3,hb8⟩;replace k1:=k1.call hb8;replace h8:=h8.belw hb8;replace h9:=h9.belw hb8;obtain ⟨g,hg⟩:∃ g:Int,((Nat.gcd y1.natAbs y2.natAbs:Nat):Int)=g:=⟨_,rfl⟩;have HG:=Qh hg;rw [hg] at h3;clear hb8 y hg;go_upto_region 6 with fail;refine jF ?_;intro w9 hw9;have q9:Below w8.heap.size w8 w9:=by rw [hw9];exact (aa w8).alloc Qr _
  have x9:Blk w9 w8.heap.size 134 #[.bool b3,.slice A3 n3 c3]:=by rw [hw9];exact Blk.new w8 _ _
  replace h8:=h8.belw q9;replace h9:=h9.belw q9;replace h3:=h3.belw q9;have l9:=k1.r.lt;replace k1:=k1.call q9;obtain ⟨gg,hgg⟩:∃ g,w8.heap.size=g:=⟨_,rfl⟩;rw [hgg] at x9 l9 ⊢;clear hw9 q9 hgg;obtain ⟨s1,hs1⟩:∃ s,y1.sign=s:=⟨_,rfl⟩;have H3:=Qh hs1;clear hs1;have y:=k1.s.v2;go_wp2_with fail;(refine (fI _ b8 A8 n8 c8 y1 k h8 s1 H3.out (by omega)).mono ?_);rintro e w10 ⟨rfl,hb10⟩;replace k1:=k1.call hb10;replace h8:=h8.belw hb10;replace h9:=h9.belw hb10;replace h3:=h3.belw hb10;replace x9:=x9.b hb10;clear hb10 y;obtain ⟨y3,hy3⟩:∃ y,sgz y1 y1=y:=⟨_,rfl⟩;have HY3:=Qh hy3;clear hy3;go_upto_if 24 with fail;obtain ⟨m,hm⟩:∃ m,decide (s1 < 0)=m:=⟨_,rfl⟩;rw [hm];have HM:=Qh hm;clear hm;go_cut [] (fun wx=>∃ b4 A4 n4 c4,B3 w w.heap.size 134 #[.bool b4,.slice A4 n4 c4] 134 #[.bool b9,.slice A9 n9 c9] 54 #[.bool false,.slice none 0 0,.slice none 0 0] wx∧Blk wx gg 134 #[.bool b3,.slice A3 n3 c3]∧IZ wx b4 A4 n4 c4 y3 k∧IZ wx b9 A9 n9 c9 y2 k'∧IZ wx b3 A3 n3 c3 g (k+k'))
  case first =>
   have y:=k1.s.v2;by_cases hn:y1 < 0
   ·obtain rfl:m=true:=by rw [← HM.out,← H3.out,Int.sign_eq_neg_one_iff_neg.2 hn];rfl
    obtain rfl:-y1=y3:=by rw [← HY3.out];exact (if_pos hn).symm
    clear hn;go_wp2_with fail;(refine (qM _ b8 A8 n8 c8 y1 k h8 (by omega)).mono ?_);rintro e w11 ⟨b4,A4,n4,c4,rfl,h4,hb11⟩;replace k1:=k1.call hb11;replace x9:=x9.b hb11;replace h9:=h9.belw hb11;replace h3:=h3.belw hb11;have y:=k1.s.v2;go_wp2_with fail;go_meet;have kp:=k1.s.k2 (by decide) (.bool b4) (.slice A4 n4 c4);exact ⟨_,_,_,_,k1.p0 _ _,(x9.far (p:=⟨w.heap.size,0,none⟩) (by show gg≠w.heap.size;omega) _).far (p:=⟨w.heap.size,1,none⟩) (by show gg≠w.heap.size;omega) _,h4.iz.keep kp,h9.keep kp,h3.iz.keep kp⟩
   obtain rfl:y1=y3:=by rw [← HY3.out];exact (if_neg hn).symm
   obtain rfl:m=false:=by rw [← HM.out,← H3.out];exact decide_eq_false (by have:=Int.sign_nonneg_iff.2 (Int.not_lt.1 hn);omega)
   clear hn;go_wp2_with fail;go_meet;exact ⟨_,_,_,_,k1,x9,h8,h9,h3.iz⟩
  case rest =>
   clear k1 x9 h8 h9 h3;obtain ⟨b4,A4,n4,c4,k1,x9,h8,h9,h3⟩:=hcut;rename World=>w12;have g0:g≠0:=by rw [← HG.out];exact tS HP.out
   have y:=And.intro k1.s.v2 x9.v2;go_wp2_with fail;(refine (xW _ b4 A4 n4 c4 y3 k h8 b3 A3 n3 c3 g (k+k') h3 (by omega) g0).mono ?_);rintro e w13 ⟨b5,A5,n5,c5,_,_,_,_,rfl,h5,_,hb13⟩;replace k1:=k1.call hb13;replace x9:=x9.b hb13;replace h9:=h9.belw hb13;replace h3:=h3.belw hb13;clear hb13 y;have y:=k1.s.v2;go_upto_region 10 with fail;refine jF ?_;intro w14 hw14;have kp:=k1.s.k2 (by decide) (.bool b5) (.slice A5 n5 c5);have k2:=k1.p0 (.bool b5) (.slice A5 n5 c5);have x10:=(x9.far (p:=⟨w.heap.size,0,none⟩) (by show gg≠w.heap.size;omega) (.bool b5)).far (p:=⟨w.heap.size,1,none⟩) (by show gg≠w.heap.size;omega) (.slice A5 n5 c5);rw [← hw14] at kp k2 x10;replace h5:=h5.keep kp;replace h9:=h9.keep kp;replace h3:=h3.keep kp;clear hw14 kp k1 x9 y;have y:=And.intro k2.t.v2 x10.v2;go_wp2_with fail;(refine (xW _ b9 A9 n9 c9 y2 k' h9 b3 A3 n3 c3 g (k+k') h3 (by omega) g0).mono ?_);rintro e w15 ⟨b6,A6,n6,c6,_,_,_,_,rfl,h6,_,hb15⟩;replace k2:=k2.call hb15;replace h5:=h5.belw hb15;clear hb15 y;have y:=And.intro k2.s.v2 (And.intro k2.t.v2 k2.r.v3);go_wp2_with fail;refine bodyPost_ret (v:=.agg #[.bool m,.slice A5 n5 c5,.slice A6 n6 c6]) (by simp [results,Tryz.results98,go_sem, *] <;> trivial) rfl ?_;clear y;have k3:=k2.p1 (.bool b6) (.slice A6 n6 c6);have kp:=(k2.t.k2 (by decide) (.bool b6) (.slice A6 n6 c6)).trans (k3.r.k3 (by decide) (.bool m) (.slice A5 n5 c5) (.slice A6 n6 c6));obtain ⟨e1,e2,e3⟩:=wI HSG.out HP.out HQQ.out;rw [HG.out] at e1 e2;rw [HY3.out] at e1;rw [H3.out,HM.out] at e3;exact ⟨_,_,_,_,_,_,_,rfl,QV.mk_ (by rw [e1];exact h5.2.1.keep kp) (by rw [e2];exact h6.2.1.keep kp) e3 HS.out,((k3.q.setCell (p:=⟨w.heap.size+1+1,0,none⟩) (by show w.heap.size≤w.heap.size+1+1;omega) _).setCell (p:=⟨w.heap.size+1+1,1,none⟩) (by show w.heap.size≤w.heap.size+1+1;omega) _).setCell (p:=⟨w.heap.size+1+1,2,none⟩) (by show w.heap.size≤w.heap.size+1+1;omega) _⟩

section
variable {w:World}{b:Bool}{A:Option Addr}{n c:Nat}{D:Option Addr}{m e:Nat}{a:RD}{k:Nat}(h:QD w b A n c D m e a k)
include h
theorem zX (h1:n=0) (h2:m=0):a.ok=!b:=by
 have e1:a.num=[]:=List.eq_nil_of_length_eq_zero (by rw [← h.2.1.2.1,h1]);have e2:a.den=[]:=List.eq_nil_of_length_eq_zero (by rw [← h.2.2.1.2.1,h2]);unfold RD.ok;rw [if_pos ⟨e1,e2⟩,h.1]
theorem QD.num_ne (h1:0 < n):a.num≠[]:=by intro e;have:=h.2.1.2.1;rw [e] at this;simp at this;omega
theorem QD.den_ne_ (h1:0 < m):a.den≠[]:=by intro e;have:=h.2.2.1.2.1;rw [e] at this;simp at this;omega
theorem zY (h1:n=0) (h2:0 < m):a.ok=false:=by
 have e1:a.num=[]:=List.eq_nil_of_length_eq_zero (by rw [← h.2.1.2.1,h1]);unfold RD.ok;rw [if_neg (by intro x;exact h.den_ne_ h2 x.2)];simp [e1]
theorem zZ (h1:0 < n) (h2:m=0):a.ok=false:=by
 have e2:a.den=[]:=List.eq_nil_of_length_eq_zero (by rw [← h.2.2.1.2.1,h2]);unfold RD.ok;rw [if_neg (by intro x;exact h.num_ne h1 x.1)];simp [e2]
omit h in
theorem xY {l:List Nat}(hl:l≠[]):WD.ok ⟨false,l⟩=lJ l:=by unfold WD.ok lJ;simp [hl]
theorem yD (h1:0 < n) (h2:0 < m):a.ok=(WD.ok ⟨false,a.num⟩ && WD.ok ⟨false,a.den⟩ && Nat.gcd (val a.num) (val a.den) == 1):=by
 have e1:=h.num_ne h1;have e2:=h.den_ne_ h2;unfold RD.ok;have f1:(a.num != [])=true:=bne_iff_ne.2 e1;have f2:(a.den != [])=true:=bne_iff_ne.2 e2;rw [if_neg (by intro x;exact e1 x.1),xY e1,xY e2,f1,f2];rfl
theorem QD.num_z (hk:WD.ok ⟨false,a.num⟩=true):IZ w false A n c (val a.num:Int) k:=⟨_,h.2.1,by simp [WD.z,hk],h.2.2.2.1⟩
theorem QD.den_z (hk:WD.ok ⟨false,a.den⟩=true):IZ w false D m e (val a.den:Int) k:=⟨_,h.2.2.1,by simp [WD.z,hk],h.2.2.2.2⟩
end
theorem wJ {x y:Nat}{s:Int}{r:Bool}(hc:eI ((Nat.gcd ((x:Int)).natAbs ((y:Int)).natAbs:Nat)) 1=s) (hr:r=(Nat.gcd x y == 1)):(s == 0)=r:=by
 subst hc hr;simp only [Int.natAbs_natCast];generalize Nat.gcd x y=g;unfold eI;by_cases h1:g=1
 ·subst h1;rfl
 by_cases h2:g < 1
 ·have:g=0:=by omega
  subst this;rfl
 have h3:¬ ((g:Int) < 1):=by omega
 have h4:¬ ((g:Int)=1):=by omega
 simp [h1,h3,h4]
theorem lR (w:World) (b:Bool) (A:Option Addr) (n c:Nat) (v:Bool) (l:List Nat) (h:Wd w A n c l) (hv:WD.ok ⟨b,l⟩=v) (hn:n≤1000000000) :
 Calls Tryz.prog 136 #[.agg #[.bool b,.slice A n c]] w (aB w (.bool v)):=by subst hv;exact iu w b A n c l h (by omega)
theorem wK (w:World) (b A n c z k) (h:IZ w b A n c z k) (b' A' n' c' z' k') (h':IZ w b' A' n' c' z' k') (s:Int) (hs:eI z z'=s) (hk:k+k'≤1000000000) :
 Calls Tryz.prog 83 #[.agg #[.bool b,.slice A n c],.agg #[.bool b',.slice A' n' c']] w (aB w (.int .i64 s)):=by subst hs;exact tR w b A n c z k h b' A' n' c' z' k' h' hk
theorem qN (w:World)  :
 Calls Tryz.prog 84 #[] w (jE w 1 1):=by
 go_in;go_wp2_with fail;(with_reducible refine (zW _ (1) ?_ ?_).mono ?_);(omega);(omega);rintro e w1 ⟨b1,A1,n1,c1,rfl,h1,hb1⟩;have q1:=hb1.q1;have x1a:Blk w1 w.heap.size 134 #[.bool false,.slice none 0 0]:=(ak _ _ _ (by simp)).below hb1 (by simp);have bw1:=(aa w).trans (q1.mono (aa w).size);have lw1:=hb1.l1;clear q1;have cx1a:=x1a.c2;have fx1a:=x1a.f2;have lx1a:=eG x1a.lt;go_wp2_with fail;refine bodyPost_ret (v:=.agg #[.bool b1,.slice A1 n1 c1]) (by simp [results,Tryz.results84,go_sem, *] <;> trivial) rfl ?_;exact ⟨b1,A1,n1,c1,rfl,h1.keep (((Kp.refl w1).sb w.heap.size 0 x1a.box (by decide) (.bool b1)).sb w.heap.size 1 (x1a.box.set ⟨w.heap.size,0,none⟩ (.bool b1)) (by decide) (.slice A1 n1 c1)),((bw1.sc w.heap.size 0 (by omega) (.bool b1)).sc w.heap.size 1 (by omega) (.slice A1 n1 c1))⟩
theorem rU (w:World) (b A n c D m e a k) (h:QD w b A n c D m e a k) (hk:k≤300000000) (h0:n=0∨m=0):Calls Tryz.prog 95 #[.agg #[.bool b,.slice A n c,.slice D m e]] w (aB w (.bool a.ok)):=by
 rcases Nat.eq_zero_or_pos n with h1 | h1
 ·rcases Nat.eq_zero_or_pos m with h2 | h2
  ·subst h1 h2
   rw [zX h rfl rfl];go_in;go_wp2;go_ret;exact ⟨rfl,(aa w).alloc Qr _⟩
  rw [zY h h1 h2];have e1:((n:Int) == 0)=true:=by simp [h1]
  have e2:((m:Int) == 0)=false:=by simp;omega
  clear h1 h2 h0 hk h;go_in;go_upto_region 1 with fail;refine jF ?_;intro w1 hw1;have x1:Blk w1 w.heap.size 54 #[.bool b,.slice A n c,.slice D m e]:=by rw [hw1];exact Blk.new w _ _
  have bw1:Below w.heap.size w w1:=by rw [hw1];exact (aa w).alloc Qr _
  clear hw1;have y:=x1.v3;go_upto_region 3 with fail;go_cut [3,4] (fun s3 s4 wx=>∃ g3 g4,s3=.pointer (some ⟨g3,0,none⟩)∧s4=.pointer (some ⟨g4,0,none⟩)∧Blk wx g3 134 #[.bool false,.slice A n c]∧Blk wx g4 134 #[.bool false,.slice D m e]∧Blk wx w.heap.size 54 #[.bool b,.slice A n c,.slice D m e]∧Below w1.heap.size w1 wx)
  case first =>
   go_region
   all_goals
    go_wp2_with fail;go_meet
    first
     | exact ⟨_,_,rfl,rfl,((ak _ _ _ rfl).alloc _).drew,(ak _ _ _ (by simp)).drew,((x1.alloc _).alloc _).drew,((((Below.refl _ _).alloc Qr _).alloc (by simp) _).drew)⟩
     | exact ⟨_,_,rfl,rfl,(ak _ _ _ (by simp)).drew,((ak _ _ _ rfl).alloc _).drew,((x1.alloc _).alloc _).drew,((((Below.refl _ _).alloc Qr _).alloc (by simp) _).drew)⟩
  case rest =>
   clear x1 y;obtain ⟨g3,g4,rfl,rfl,y3,y4,x1,q1⟩:=hcut;rename World=>w2;replace bw1:=bw1.trans (q1.mono bw1.size);clear q1;have y:=And.intro x1.v3 (And.intro y3.v2 y4.v2);go_wp2;go_ret;exact ⟨rfl,bw1⟩
 have h2:m=0:=by omega
 rw [zZ h h1 h2];have e1:((n:Int) == 0)=false:=by simp;omega
 have e2:((m:Int) == 0)=true:=by simp [h2]
 clear h1 h2 h0 hk h;go_in;go_upto_region 1 with fail;refine jF ?_;intro w1 hw1;have x1:Blk w1 w.heap.size 54 #[.bool b,.slice A n c,.slice D m e]:=by rw [hw1];exact Blk.new w _ _
 have bw1:Below w.heap.size w w1:=by rw [hw1];exact (aa w).alloc Qr _
 clear hw1;have y:=x1.v3;go_upto_region 3 with fail;go_cut [3,4] (fun s3 s4 wx=>∃ g3 g4,s3=.pointer (some ⟨g3,0,none⟩)∧s4=.pointer (some ⟨g4,0,none⟩)∧Blk wx g3 134 #[.bool false,.slice A n c]∧Blk wx g4 134 #[.bool false,.slice D m e]∧Blk wx w.heap.size 54 #[.bool b,.slice A n c,.slice D m e]∧Below w1.heap.size w1 wx)
 case first =>
  go_region
  all_goals
   go_wp2_with fail;go_meet
   first
    | exact ⟨_,_,rfl,rfl,((ak _ _ _ rfl).alloc _).drew,(ak _ _ _ (by simp)).drew,((x1.alloc _).alloc _).drew,((((Below.refl _ _).alloc Qr _).alloc (by simp) _).drew)⟩
    | exact ⟨_,_,rfl,rfl,(ak _ _ _ (by simp)).drew,((ak _ _ _ rfl).alloc _).drew,((x1.alloc _).alloc _).drew,((((Below.refl _ _).alloc Qr _).alloc (by simp) _).drew)⟩
 case rest =>
  clear x1 y;obtain ⟨g3,g4,rfl,rfl,y3,y4,x1,q1⟩:=hcut;rename World=>w2;replace bw1:=bw1.trans (q1.mono bw1.size);clear q1;have y:=And.intro x1.v3 (And.intro y3.v2 y4.v2);go_wp2;go_ret;exact ⟨rfl,bw1⟩
theorem wL (w:World) (b A n c D m e a k) (h:QD w b A n c D m e a k) (hk:k≤300000000):Calls Tryz.prog 95 #[.agg #[.bool b,.slice A n c,.slice D m e]] w (aB w (.bool a.ok)):=by
 by_cases h0:n=0∨m=0
 ·exact rU w b A n c D m e a k h hk h0
 have h1:0 < n:=by omega
 have h2:0 < m:=by omega
 have hnk:=h.2.2.2.1;have hmk:=h.2.2.2.2;have hok:=yD h h1 h2;have e1:((n:Int) == 0)=false:=by simp;omega
 have e2:((m:Int) == 0)=false:=by simp;omega
 obtain ⟨u,hu⟩:∃ u,WD.ok ⟨false,a.num⟩=u:=⟨_,rfl⟩;obtain ⟨v,hv⟩:∃ v,WD.ok ⟨false,a.den⟩=v:=⟨_,rfl⟩;rw [hok,hu,hv];have HU:=Qh hu;have HV:=Qh hv;have H:=Qh h;clear h0 h1 h2 hok hu hv h;go_in;go_upto_region 1 with fail;refine jF ?_;intro w1 hw1;have x1:Blk w1 w.heap.size 54 #[.bool b,.slice A n c,.slice D m e]:=by rw [hw1];exact Blk.new w _ _
 have bw1:Below w.heap.size w w1:=by rw [hw1];exact (aa w).alloc Qr _
 clear hw1;have y:=x1.v3;go_upto_region 3 with fail;go_cut [3,4] (fun s3 s4 wx=>∃ g3 g4,s3=.pointer (some ⟨g3,0,none⟩)∧s4=.pointer (some ⟨g4,0,none⟩)∧Blk wx g3 134 #[.bool false,.slice A n c]∧Blk wx g4 134 #[.bool false,.slice D m e]∧Blk wx w.heap.size 54 #[.bool b,.slice A n c,.slice D m e]∧Below w1.heap.size w1 wx)
 case first =>
  go_region
  all_goals
   go_wp2_with fail;go_meet
   first
    | exact ⟨_,_,rfl,rfl,((ak _ _ _ rfl).alloc _).drew,(ak _ _ _ (by simp)).drew,((x1.alloc _).alloc _).drew,((((Below.refl _ _).alloc Qr _).alloc (by simp) _).drew)⟩
    | exact ⟨_,_,rfl,rfl,(ak _ _ _ (by simp)).drew,((ak _ _ _ rfl).alloc _).drew,((x1.alloc _).alloc _).drew,((((Below.refl _ _).alloc Qr _).alloc (by simp) _).drew)⟩
 case rest =>
  clear x1 y;obtain ⟨g3,g4,rfl,rfl,y3,y4,x1,q1⟩:=hcut;rename World=>w2;replace bw1:=bw1.trans (q1.mono bw1.size);clear q1;have y:=And.intro x1.v3 (And.intro y3.v2 y4.v2);go_wp2_with fail;(refine (lR _ false A n c u a.num (H.out.2.1.belw bw1) HU.out (by omega)).mono ?_);rintro e w3 ⟨rfl,hb3⟩;replace bw1:=bw1.trans (hb3.mono bw1.size);replace y3:=y3.b hb3;replace y4:=y4.b hb3;clear hb3 y x1;cases u
  ·go_wp2
   go_ret;exact ⟨rfl,bw1⟩
  have y:=And.intro y3.v2 y4.v2;go_wp2_with fail;(refine (lR _ false D m e v a.den (H.out.2.2.1.belw bw1) HV.out (by omega)).mono ?_);rintro e' w4 ⟨rfl,hb4⟩;replace bw1:=bw1.trans (hb4.mono bw1.size);replace y3:=y3.b hb4;replace y4:=y4.b hb4;clear hb4 y;cases v
  ·go_wp2
   go_ret;exact ⟨rfl,bw1⟩
  have hN:=(H.out.num_z HU.out).belw bw1;have hD:=(H.out.den_z HV.out).belw bw1;have y:=And.intro y3.v2 y4.v2;go_wp2_with fail;(refine (xV _ false A n c _ k hN false D m e _ k hD (by omega)).mono ?_);rintro e' w5 ⟨b9,A9,n9,c9,rfl,h9,hb5⟩;replace bw1:=bw1.trans (hb5.mono bw1.size);clear hb5 y hN hD y3 y4;go_wp2_with fail;(refine (qN _).mono ?_);rintro e' w6 ⟨b8,A8,n8,c8,rfl,h8,hb6⟩;replace bw1:=bw1.trans (hb6.mono bw1.size);replace h9:=h9.belw hb6;clear hb6;obtain ⟨s,hs⟩:∃ s,eI ((Nat.gcd ((val a.num:Int)).natAbs ((val a.den:Int)).natAbs:Nat)) 1=s:=⟨_,rfl⟩;have HS:=Qh hs;clear hs;go_wp2_with fail;(refine (wK _ b9 A9 n9 c9 _ (k+k) h9.iz b8 A8 n8 c8 1 1 h8.iz s HS.out (by omega)).mono ?_);rintro e' w7 ⟨rfl,hb7⟩;go_wp2;go_ret;exact cQ (wJ HS.out rfl) (bw1.trans (hb7.mono bw1.size))

theorem tW (w:World) (A:Option Addr) (n c:Nat) (l:List Nat) (h:Wd w A n c l) (i:Int) (hi:0≤i) (hn:n≤4398046511104) :
 Calls Tryz.prog 196 #[.slice A n c,.int .i64 i] w fun e w'=>e=.returned (.int .u64 (wd l i.toNat:Nat))∧w=w':=by
 obtain ⟨k,rfl⟩:=Int.eq_ofNat_of_zero_le hi;have hl:=h.lt k;have hlen:n=l.length:=h.2.1;by_cases hk:k < n
 ·obtain ⟨g,o,rfl,hc⟩:=h.at_ (by omega)
  have hck:=hc k hk;clear hc hi;have H:=Qh hlen;clear hlen;go_in;go_wp2;go_ret;exact ⟨by simp,rfl⟩
 have hz:wd l k=0:=dN (by omega);have H:=Qh hz;have H2:=Qh hlen;clear hz hi hlen;go_in;go_wp2;go_ret;exact ⟨by simp [H.out],rfl⟩

theorem bN (w:World) (A:Option Addr) (n c:Nat) (l:List Nat) (h:Wd w A n c l) (k x:Nat) (hx:wd l k=x) (hn:n≤4398046511104) :
 Calls Tryz.prog 196 #[.slice A n c,.int .i64 (k:Nat)] w fun e w'=>e=.returned (.int .u64 (x:Nat))∧w=w':=by
 subst hx;have:=tW w A n c l h (k:Nat) (by omega) hn;simpa using this

theorem gf (w:World) (b:Bool) (A:Option Addr) (n c:Nat) (l:List Nat) (h:Wd w A n c l) (hn:n≤1099511627776) :
 Calls Tryz.prog 190 #[.agg #[.bool b,.slice A n c]] w (aB w (.bool (WD.ok ⟨b,l⟩))):=by
 have HL:=Qh h.2.1;by_cases h0:n=0
 ·subst h0
  have hl:l=[]:=List.eq_nil_of_length_eq_zero HL.out.symm;have HE:=Qh (show WD.ok ⟨b,l⟩=!b by unfold WD.ok;simp [hl]);clear hl;go_in;go_wp2;go_ret;exact cQ HE.out.symm ((Below.refl _ _).alloc Qr _)
 obtain ⟨g,o,rfl,hgl,hc⟩:=h.at2 (by omega);have hck:=hc (n - 1) (by omega);have hlt:=h.lt (n - 1)
 have he:WD.ok ⟨b,l⟩=!decide (wd l (n - 1)=0):=by
  have hne:l≠[]:=by rintro rfl;have:=HL.out;simp at this;omega
  unfold WD.ok;simp only [if_neg hne,← HL.out];by_cases hz:wd l (n - 1)=0 <;> simp [hz]
 have HE:=Qh he;clear he;have hn0:((n:Int) == 0)=false:=by simp;omega
 have hp:0 < n:=by omega
 clear hc h0;generalize hgx:wd l (n - 1)=x at *;clear hgx;go_in;go_wp2;go_ret;refine cQ ?_ ((Below.refl _ _).alloc Qr _);rw [HE.out];by_cases hz:x=0 <;> simp [hz]

theorem fo (w:World) (b:Bool) (A:Option Addr) (n c:Nat) (l:List Nat) (h:Wd w A n c l) (hn:n≤1099511627776) :
 Calls Tryz.prog 159 #[.agg #[.bool b,.slice A n c]] w (fm w (WD.m ⟨b,l⟩)):=by
 cases hk:WD.ok ⟨b,l⟩
 ·have HK:=Qh hk
  go_in;go_wp2_with (go_at_call 190;refine (gf _ b A n c l (h.keep ((Kp.refl _).alloc _)) hn).mono ?_;rintro e w1 ⟨rfl,hb⟩);go_ret;refine ⟨none,0,0,rfl,?_,((Below.refl _ _).alloc Qr _).trans (hb.mono (by simp))⟩;unfold WD.m;rw [HK.out];exact Wd.nil_ _
 have HK:=Qh hk;go_in;go_wp2_with (go_at_call 190;refine (gf _ b A n c l (h.keep ((Kp.refl _).alloc _)) hn).mono ?_;rintro e w1 ⟨rfl,hb⟩;obtain ⟨hc,hf⟩:=bS hb);go_ret;refine ⟨A,n,c,rfl,?_,((Below.refl _ _).alloc Qr _).trans (hb.mono (by simp))⟩;unfold WD.m;rw [HK.out];exact h.keep (((Kp.refl _).alloc _).below hb)

theorem mA (w:World) (b:Bool) (A:Option Addr) (n c:Nat) (l:List Nat) (h:Wd w A n c l) (hn:n≤1099511627776) :
 Calls Tryz.prog 160 #[.agg #[.bool b,.slice A n c]] w (aB w (.bool (WD.s ⟨b,l⟩))):=by
 cases hk:WD.ok ⟨b,l⟩
 ·have HK:=Qh hk
  go_in;go_wp2_with (go_at_call 190;refine (gf _ b A n c l (h.keep ((Kp.refl _).alloc _)) hn).mono ?_;rintro e w1 ⟨rfl,hb⟩);go_ret;refine cQ ?_ (((Below.refl _ _).alloc Qr _).trans (hb.mono (by simp)));unfold WD.s;rw [HK.out];rfl
 have HK:=Qh hk;go_in;go_wp2_with (go_at_call 190;refine (gf _ b A n c l (h.keep ((Kp.refl _).alloc _)) hn).mono ?_;rintro e w1 ⟨rfl,hb⟩;obtain ⟨hc,hf⟩:=bS hb);go_ret;refine cQ ?_ (((Below.refl _ _).alloc Qr _).trans (hb.mono (by simp)));unfold WD.s;rw [HK.out];simp


theorem Wd.cut_ {w:World}{g o n c:Nat}{l:List Nat}(h:Wd w (some ⟨g,o,none⟩) n c l) {j:Nat}(hj:j≤n):Wd w (some ⟨g,o,none⟩) j c (l.take j):=by
 have hl:=h.2.1;refine ⟨Wds.take h.1 j,by rw [List.length_take];omega,Nat.le_trans hj h.2.2.1,fun h0=>?_⟩;obtain ⟨g',o',cur,fr,e,hb,hc⟩:=h.2.2.2 (by omega);refine ⟨g',o',cur,fr,e,hb,fun i hi=>?_⟩;rw [hc i (by omega)];have:wd (l.take j) i=wd l i:=by simp [wd,List.getD,hi]
 rw [this]
theorem jG {P:Program}(w:World) (t ty e:TypeId) (i:TypeInfo) (ht:P.underlying t=some (.slice e)) (hi:P.info? e=some i) (g:Nat) (A:Option Addr) (c:Nat) :
 (Builtin.append_ #[t,t] ty #[.slice (some ⟨g,0,none⟩) 0 0,.slice A 0 c]).run P w=.ok (.slice (some ⟨g,0,none⟩) 0 0) w:=by
 cases A <;> simp [Builtin.append_,run_underlying ht,sizeOf,typeInfo,hi,Builtin.lenOf,Builtin.firstCells,loadCells,loadCellsFrom,storeCells]
theorem dF {P:Program}{w:World}{ops:Array Oper}{rest:List Oper}{o:Oper}{a:Act}{Q:Exit→Act→World→Prop}(hgd:o.guard=none) (s x:Operand) (t:TypeId)
 (ho:o.op=.call { callee:=.builtin .append,args:=#[s,x],argTypes:=#[t,t] })
 (e:TypeId) (i:TypeInfo) (ht:P.underlying t=some (.slice e)) (hi:P.info? e=some i)
 (g:Nat) (A:Option Addr) (c:Nat) (hs:a.eval s=.slice (some ⟨g,0,none⟩) 0 0) (hx:a.eval x=.slice A 0 c)
 (h:wpList P ops Q rest (a.put o.dst (.slice (some ⟨g,0,none⟩) 0 0)) w):wpList P ops Q (o :: rest) a w:=by
 refine wpList_plain hgd fun K hK=>?_
 have hrun:=jG (P:=P) w t o.type e i ht hi g A c;unfold Oper.wp;simp [execOp,ho,resolve,invoke,builtin,hs,hx,hrun,Result.andThen];exact hK _ _ h
theorem fJ (w:World) (A:Option Addr) (n c:Nat) (l:List Nat) (h:Wd w A n c l) (hn:n≤4398046511104) :
 Calls Tryz.prog 165 #[.slice A n c] w (fm w (am (val l))):=by
 have HL:=Qh h.2.1;have hcap:n≤c:=h.2.2.1;obtain ⟨i0,hi0,hz0,hz1,hz2⟩:=info_parts dP;by_cases h0:n=0
 ·subst h0
  have HE:=Qh (show am (val l)=[] by rw [List.eq_nil_of_length_eq_zero HL.out.symm];exact av);clear h hn;go_in;go_wp2_with (at_builtin;refine dF rfl _ _ _ rfl 173 i0 Tryz.underlying52 hi0 _ _ _ rfl rfl ?_);go_loop [3] (fun v=>v=.slice (some ⟨w.heap.size,0,none⟩) 0 0) (fun _=>0)
  case atStart=>rfl
  case round =>
   subst hrel;go_wp2;go_ret;refine ⟨_,_,_,rfl,?_,(Below.refl _ _).alloc Qr _⟩;rw [HE.out];exact ⟨by simp [Wds],rfl,Qr,fun h=>absurd h (by omega)⟩
 obtain ⟨g,o,rfl,hc⟩:=h.at_ (by omega);clear hc;have hp:0 < n:=by omega
 have hown:=World.ownsRow_lit (e:=173) (size:=1) w #[] 0 Qr (by simp [maxLen]) rfl;have hnews:=(h.keep ((Kp.refl w).alloc (.cells #[] 173))).news (by omega) Qr;have hnl:(words (l.take n)).length=n * 1:=by rw [cD,List.length_take,← HL.out];omega
 have HO:=Qh hown;have HN:=Qh hnews;have HNL:=Qh hnl;have HW:=Qh h.1;clear hown hnews hnl h h0;go_in;go_wp2_with (at_builtin;refine wpList_append_lies _ rfl _ _ _ rfl w.heap.size 173 i0 (.int .u32 0) 1 4 Tryz.underlying52 hi0 hz0 hz1 hz2 rfl (by omega) _ 0 [] rfl HO.out ⟨g,o,none⟩ n c (words (l.take n)) rfl HNL.out HN.out (eT _) (by omega) (by unfold maxLen;omega) (by omega) (by simp) (w.heap.size+1) (by simp) ?_;intro gx cap w1 hown1 hgrow hat hlt1);simp only [Nat.zero_add,List.nil_append] at hown1;have hw1:=Wd.of_own hown1 (Wds.take HW.out n);rw [List.take_of_length_le (Nat.le_of_eq HL.out.symm)] at hw1;have hbel:=((Below.refl w.heap.size w).alloc Qr (.cells #[] 173)).grown hgrow (by simp) (fun b hb=>Nat.le_of_eq (Option.some.inj hb));have HW1:=Qh hw1;have HB:=Qh hbel;have hcap1:n≤cap:=hw1.2.2.1;clear hown1 hgrow hat hw1 hbel HO HN HNL;go_loop [3] (fun v=>∃ k:Nat,k≤n∧v=.slice (some ⟨gx,0,none⟩) k cap∧qH l k) (fun v=>match v with | .slice _ k _=>k | _=>0)
 case atStart=>exact ⟨n,Qr,by simp,fun i hi=>dN (by rw [← HL.out];exact hi)⟩
 case round =>
  obtain ⟨k,hk,rfl,ht⟩:=hrel;by_cases h0:k=0
  ·subst h0
   have HT:=Qh ht;clear ht;go_wp2;go_ret;refine ⟨_,_,_,rfl,?_,HB.out⟩;have:=bD HW.out (Nat.zero_le _) HT.out (.inl rfl);rw [this];exact HW1.out.cut_ (Nat.zero_le _)
  have hkp:0 < k:=by omega
  obtain ⟨g',o',e,hc⟩:=HW1.out.at_ (by omega);injection e with e;injection e with e1 e2;subst e1 e2;have hck:=hc (k - 1) (by omega);rw [Nat.zero_add] at hck;have hlt:=HW1.out.lt (k - 1);have HT:=Qh ht;generalize hx:wd l (k - 1)=x at *;have HX:=Qh hx;clear hc h0 ht hx;by_cases hz:x=0
  ·subst hz
   go_wp2;go_round
   case rel=>exact ⟨k - 1,by omega,rfl,fun i hi=>by
    by_cases he:i=k - 1
    ·subst he;exact HX.out
    exact HT.out i (by omega)⟩
   case measure=>dsimp only;omega
  have hz':((x:Int) == 0)=false:=by simp;omega
  have HZ:=Qh hz;clear hz;go_wp2;go_ret;have hd:=bD HW.out (by rw [← HL.out];exact hk) HT.out (.inr (by rw [HX.out];exact HZ.out));refine ⟨_,_,_,rfl,?_,HB.out⟩;rw [hd];exact HW1.out.cut_ hk

theorem tX (w:World) (b:Bool) (A:Option Addr) (n c:Nat) (l:List Nat) (h:Wd w A n c l) (hn:n≤1099511627776) :
 Calls Tryz.prog 129 #[.bool b,.slice A n c] w (ia w (wh (sgn b (val l)))):=by
 rw [tl];go_in;go_wp2_with fail;(with_reducible refine (fJ _ A n c l ?_ ?_).mono ?_);(exact h.keep ((Kp.refl _).alloc _));(omega);rintro e w1 ⟨A1,n1,c1,rfl,h1,hb⟩;have q:Below w.heap.size w w1:=((Below.refl _ _).alloc Qr _).trans (hb.mono (by simp));have x:Blk w1 w.heap.size 134 #[.bool false,.slice none 0 0]:=(ak w _ _ rfl).below hb (by simp);have c0:w1.cell? ⟨w.heap.size,0,none⟩=some (.bool false):=x.cell 0;have c1':w1.cell? ⟨w.heap.size,1,none⟩=some (.slice none 0 0):=x.cell 1;have f0:=x.f2;have HL:=Qh h1.2.1;clear hb h;by_cases h0:n1=0
 ·subst h0
  have HE:=Qh (List.eq_nil_of_length_eq_zero HL.out.symm);have H1:=Qh h1;clear h1;go_wp2;refine bodyPost_ret (v:=.agg #[.bool false,.slice none 0 0]) (by simp [results,Tryz.results129,go_sem, *] <;> trivial) rfl ?_;rw [HE.out];exact ⟨none,0,0,by simp,Wd.nil_ _,(q.setCell (p:=⟨w.heap.size,0,none⟩) Qr _).setCell (p:=⟨w.heap.size,1,none⟩) Qr _⟩
 have e0:((n1:Int) == 0)=false:=by simp;omega
 have hp:0 < n1:=by omega
 have H1:=Qh h1;clear h1 h0;go_wp2;refine bodyPost_ret (v:=.agg #[.bool b,.slice A1 n1 c1]) (by simp [results,Tryz.results129,go_sem, *] <;> trivial) rfl ?_;refine ⟨A1,n1,c1,?_,H1.out.keep (kp2 x.box (by decide) _ _ _ _),(q.setCell (p:=⟨w.heap.size,0,none⟩) Qr _).setCell (p:=⟨w.heap.size,1,none⟩) Qr _⟩;have:decide (0 < (am (val l)).length)=true:=by rw [← HL.out];simp [hp]
 rw [this];simp
theorem eu (w:World) (A n c l) (wa:Wd w A n c l) (hn:n≤1099511627776) (A' n' c' l') (wb:Wd w A' n' c' l') (hn':n'≤1099511627776) :
 Calls Tryz.prog 192 #[.slice A n c,.slice A' n' c'] w (aB w (.int .i64 (bq (val l) (val l')))):=by
 have HL:=Qh wa.2.1;have HL':=Qh wb.2.1;obtain ⟨M,hM⟩:∃ M,M=max n n':=⟨_,rfl⟩;have HM:=Qh hM;have hM3:M≤1099511627776:=by omega
 clear hM;go_in;go_wp2
 all_goals
  go_loop [5] (fun v=>∃ k:Nat,k≤M∧v=.int .i64 ((k:Int) - 1)∧zI l l' k) (fun v=>(intOf v+1).toNat)
  case atStart=>exact ⟨M,Qr,by have:=HM.out;rw [show (M:Int) - 1=_ from rfl];congr 1;omega,fun j hj=>by rw [dN (by rw [← HL.out];have:=HM.out;omega),dN (by rw [← HL'.out];have:=HM.out;omega)]⟩
  case round =>
   obtain ⟨k,hk,rfl,hI⟩:=hrel;by_cases h0:k=0
   ·subst h0
    have HE:=Qh (show bq (val l) (val l')=0 by unfold bq;rw [lH (fun j=>hI j (Nat.zero_le _))];simp);clear hI;go_wp2;go_ret;exact cJ HE.out.symm (Below.refl _ _)
   obtain ⟨j,rfl⟩:∃ j,k=j+1:=⟨k - 1,by omega⟩;obtain ⟨x,y,hx,hy⟩:∃ x y,wd l j=x∧wd l' j=y:=⟨_,_,rfl,rfl⟩;have HX:=Qh hx;have HY:=Qh hy;have HI:=Qh hI;have ej:(((j+1:Nat):Int) - 1)=(j:Int):=by omega
   rw [ej];clear hx hy hI h0 ej;rcases Nat.lt_trichotomy x y with hxy | rfl | hxy
   ·have hne:((x:Int) != (y:Int))=true:=by rw [bne_iff_ne];omega
    have HE:=Qh (show bq (val l) (val l')=-1 by unfold bq;rw [if_pos (fW wa.1 (i:=j) (by rw [HX.out,HY.out];exact hxy) (fun i hi=>HI.out i (by omega)))])
    go_wp2_with (first
     | (go_at_call 196;(with_reducible refine (bN _ A n c l ?_ j x HX.out (by omega)).mono ?_);exact wa;rintro e w' ⟨rfl,rfl⟩)
     | (go_at_call 196;(with_reducible refine (bN _ A' n' c' l' ?_ j y HY.out (by omega)).mono ?_);exact wb;rintro e w' ⟨rfl,rfl⟩))
    go_ret;exact cJ HE.out.symm (Below.refl _ _)
   ·go_wp2_with (first
     | (go_at_call 196;(with_reducible refine (bN _ A n c l ?_ j x HX.out (by omega)).mono ?_);exact wa;rintro e w' ⟨rfl,rfl⟩)
     | (go_at_call 196;(with_reducible refine (bN _ A' n' c' l' ?_ j x HY.out (by omega)).mono ?_);exact wb;rintro e w' ⟨rfl,rfl⟩))
    go_round
    case rel=>exact ⟨j,by omega,by go_num,fun i hi=>by
     by_cases hij:i=j
     ·subst hij;rw [HX.out,HY.out]
     exact HI.out i (by omega)⟩
    case measure=>simp [intOf]
   have hne:((x:Int) != (y:Int))=true:=by rw [bne_iff_ne];omega
   have HE:=Qh (show bq (val l) (val l')=1 by
    have:=fW wb.1 (i:=j) (by rw [HX.out,HY.out];exact hxy) (fun i hi=>(HI.out i (by omega)).symm)
    unfold bq;rw [if_neg (by omega),if_neg (by omega)])
   go_wp2_with (first
    | (go_at_call 196;(with_reducible refine (bN _ A n c l ?_ j x HX.out (by omega)).mono ?_);exact wa;rintro e w' ⟨rfl,rfl⟩)
    | (go_at_call 196;(with_reducible refine (bN _ A' n' c' l' ?_ j y HY.out (by omega)).mono ?_);exact wb;rintro e w' ⟨rfl,rfl⟩))
   go_ret;exact cJ HE.out.symm (Below.refl _ _)

theorem pI {L:List Nat}{d i:Nat}(h:i < L.length):wd (L ++ [d]) i=wd L i:=by
 simp [wd,List.getD,List.getElem?_append_left h]
theorem wM {L:List Nat}{d:Nat}:wd (L ++ [d]) L.length=d:=by simp [wd,List.getD]
theorem qO {L:List Nat}{d k:Nat}(h:L.length=k):Sm (wd (L ++ [d])) (k+1)=Sm (wd L) k+d * 4294967296 ^ k:=by
 subst h;rw [Sm,wM,dt (fun i hi=>pI hi)]
theorem nR {L:List Nat}{d:Nat}(h:Wds L) (hd:d < 4294967296):Wds (L ++ [d]):=by
 intro x hx;rcases List.mem_append.1 hx with h1 | h1
 ·exact h x h1
 simp at h1;omega
theorem kz (L:List Nat) (d:Nat):words (L ++ [d])=words L ++ [.int .u32 (d:Nat)]:=by simp [words]
theorem du {w:World}{base:Nat}{e:TypeId}{size:Nat}{v:Value}{n:Nat}{xs:List Value}(h:w.ownsRow base e size v n xs):∀ b,v.ownBlock=some b→base≤b:=by
 intro b hb;rcases h.2 with ⟨rfl,_⟩ | ⟨g,c,cur,rfl,h1,_⟩
 ·simp [Value.ownBlock] at hb
 simp [Value.ownBlock] at hb;omega
theorem tY (w:World) (A n c l) (wa:Wd w A n c l) (hn:n≤1099511627776) (A' n' c' l') (wb:Wd w A' n' c' l') (hn':n'≤1099511627776) (hle:n≤n') :
 Calls Tryz.prog 163 #[.slice A n c,.slice A' n' c'] w (fm w (am (val l+val l'))):=by
 have HL:=Qh wa.2.1;have HL':=Qh wb.2.1;obtain ⟨i0,hi0,hz0,hz1,hz2⟩:=info_parts dP;go_in;go_wp2_with fail;go_loopw [5,6,15] (fun ov cv iv wr=>∃ (k cr:Nat) (L:List Nat),k≤n'+1∧iv=.int .i64 (k:Nat)∧cv=.int .u64 (cr:Nat)∧cr≤1∧L.length=k∧tC l l' L k cr∧wr.ownsRow w.heap.size 173 1 ov k (words L)∧Below w.heap.size w wr) (fun _ _ iv _=>n'+1 - (intOf iv).toNat)
 case atStart=>exact ⟨0,0,[],Nat.zero_le _,rfl,rfl,by omega,rfl,⟨by simp [Wds],by simp [Sm]⟩,⟨rfl,.inl ⟨rfl,rfl⟩⟩,aa _⟩
 case round =>
  obtain ⟨k,cr,L,hk,rfl,rfl,hcr,hLk,hI,hown,hbel⟩:=hrel;have hKp:=Qh ((Kp.refl w).below hbel);have HI:=Qh hI;have HLk:=Qh hLk;have HO:=Qh hown;clear hI hLk hown;by_cases hkM:k < n'+1
  ·obtain ⟨x,y,hx,hy⟩:∃ x y,wd l k=x∧wd l' k=y:=⟨_,_,rfl,rfl⟩
   have hx1:x < 4294967296:=by rw [← hx];exact wa.lt k
   have hy1:y < 4294967296:=by rw [← hy];exact wb.lt k
   have HX:=Qh hx;have HY:=Qh hy;have hsz:=hbel.size;have HD:=Qh (fZ (x:=x) (y:=y) HI.out.2);clear hx hy
   go_wp2_with (first
    | (go_at_call 196;(with_reducible refine (bN _ A n c l ?_ k x HX.out (by omega)).mono ?_);exact wa.keep hKp.out;rintro e w' ⟨rfl,rfl⟩)
    | (go_at_call 196;(with_reducible refine (bN _ A' n' c' l' ?_ k y HY.out (by omega)).mono ?_);exact wb.keep hKp.out;rintro e w' ⟨rfl,rfl⟩)
    | (at_builtin;refine wpList_append_lies _ rfl _ _ _ rfl w.heap.size 173 i0 (.int .u32 0) 1 4 Tryz.underlying52 hi0 hz0 hz1 hz2 rfl (by omega) _ k (words L) rfl (HO.out.alloc _) ⟨wr.heap.size,0,none⟩ 1 1 [_] rfl rfl (World.news_of_block (heap_alloc_new wr _)) (by simp [Value.oneCell']) (by omega) (by unfold maxLen;omega) (by omega) (by simp;omega) (wr.heap.size+1) (by simp) ?_;intro gx cap w1 hown1 hgrow hat hlt1))
   go_roundw
   case rel =>
    refine ⟨k+1,(cr+x+y) / 4294967296,L ++ [(cr+x+y) % 4294967296],by omega,by go_num,by congr 1;omega,by omega,by simp [HLk.out],⟨nR HI.out.1 (Nat.mod_lt _ (by omega)),?_⟩,?_,(hbel.alloc hbel.size _).grown hgrow (by simp;omega) (du HO.out)⟩
    ·rw [qO HLk.out,Sm,Sm,HX.out,HY.out,Nat.pow_succ]
     exact HD.out
    have e:(Value.int .u32 (((x:Int)+y+cr) % 4294967296))=.int .u32 (((cr+x+y) % 4294967296:Nat):Int):=by congr 1;omega
    rw [kz,← e];exact hown1
   case measure=>simp [intOf];omega
  have hkk:k=n'+1:=by omega
  have hv:val L=val l+val l':=by
   have h1:=HI.out.2;have h2:=cF wa.1;have h3:=cF wb.1;rw [aX L (by rw [HLk.out];exact Qr),aX l (by rw [← HL.out];omega),aX l' (by rw [← HL'.out];omega)] at h1;have h4:4294967296 ^ l.length≤4294967296 ^ (k - 1):=Nat.pow_le_pow_right (by omega) (by rw [← HL.out];omega);have h5:4294967296 ^ l'.length≤4294967296 ^ (k - 1):=Nat.pow_le_pow_right (by omega) (by rw [← HL'.out];omega);have h6:4294967296 ^ k=4294967296 ^ (k - 1) * 4294967296:=by rw [← Nat.pow_succ];congr 1;omega
   rcases (show cr=0∨cr=1 by omega) with rfl | rfl
   ·omega
   omega
  have HV:=Qh hv;obtain ⟨gx,cap,rfl,_,_⟩:=HO.out.form (by omega);clear hv hkk;go_wp2_with fail;(with_reducible refine (fJ _ _ k cap L ?_ ?_).mono ?_);(exact Wd.of_own HO.out HI.out.1);(omega);rintro e w1 ⟨A1,n1,c1,rfl,h1,hb1⟩;go_wp2;go_ret;rw [HV.out] at h1;exact ⟨_,_,_,rfl,h1,hbel.trans (hb1.mono hbel.size)⟩
theorem tZ (w:World) (A n c l) (wa:Wd w A n c l) (hn:n≤1099511627776) (A' n' c' l') (wb:Wd w A' n' c' l') (hn':n'≤1099511627776) (hle:n' < n) :
 Calls Tryz.prog 163 #[.slice A n c,.slice A' n' c'] w (fm w (am (val l+val l'))):=by
 have HL:=Qh wa.2.1;have HL':=Qh wb.2.1;obtain ⟨i0,hi0,hz0,hz1,hz2⟩:=info_parts dP;go_in;go_wp2_with fail;go_loopw [5,6,15] (fun ov cv iv wr=>∃ (k cr:Nat) (L:List Nat),k≤n+1∧iv=.int .i64 (k:Nat)∧cv=.int .u64 (cr:Nat)∧cr≤1∧L.length=k∧tC l l' L k cr∧wr.ownsRow w.heap.size 173 1 ov k (words L)∧Below w.heap.size w wr) (fun _ _ iv _=>n+1 - (intOf iv).toNat)
 case atStart=>exact ⟨0,0,[],Nat.zero_le _,rfl,rfl,by omega,rfl,⟨by simp [Wds],by simp [Sm]⟩,⟨rfl,.inl ⟨rfl,rfl⟩⟩,aa _⟩
 case round =>
  obtain ⟨k,cr,L,hk,rfl,rfl,hcr,hLk,hI,hown,hbel⟩:=hrel;have hKp:=Qh ((Kp.refl w).below hbel);have HI:=Qh hI;have HLk:=Qh hLk;have HO:=Qh hown;clear hI hLk hown;by_cases hkM:k < n+1
  ·obtain ⟨x,y,hx,hy⟩:∃ x y,wd l k=x∧wd l' k=y:=⟨_,_,rfl,rfl⟩
   have hx1:x < 4294967296:=by rw [← hx];exact wa.lt k
   have hy1:y < 4294967296:=by rw [← hy];exact wb.lt k
   have HX:=Qh hx;have HY:=Qh hy;have hsz:=hbel.size;have HD:=Qh (fZ (x:=x) (y:=y) HI.out.2);clear hx hy
   go_wp2_with (first
    | (go_at_call 196;(with_reducible refine (bN _ A n c l ?_ k x HX.out (by omega)).mono ?_);exact wa.keep hKp.out;rintro e w' ⟨rfl,rfl⟩)
    | (go_at_call 196;(with_reducible refine (bN _ A' n' c' l' ?_ k y HY.out (by omega)).mono ?_);exact wb.keep hKp.out;rintro e w' ⟨rfl,rfl⟩)
    | (at_builtin;refine wpList_append_lies _ rfl _ _ _ rfl w.heap.size 173 i0 (.int .u32 0) 1 4 Tryz.underlying52 hi0 hz0 hz1 hz2 rfl (by omega) _ k (words L) rfl (HO.out.alloc _) ⟨wr.heap.size,0,none⟩ 1 1 [_] rfl rfl (World.news_of_block (heap_alloc_new wr _)) (by simp [Value.oneCell']) (by omega) (by unfold maxLen;omega) (by omega) (by simp;omega) (wr.heap.size+1) (by simp) ?_;intro gx cap w1 hown1 hgrow hat hlt1))
   go_roundw
   case rel =>
    refine ⟨k+1,(cr+x+y) / 4294967296,L ++ [(cr+x+y) % 4294967296],by omega,by go_num,by congr 1;omega,by omega,by simp [HLk.out],⟨nR HI.out.1 (Nat.mod_lt _ (by omega)),?_⟩,?_,(hbel.alloc hbel.size _).grown hgrow (by simp;omega) (du HO.out)⟩
    ·rw [qO HLk.out,Sm,Sm,HX.out,HY.out,Nat.pow_succ]
     exact HD.out
    have e:(Value.int .u32 (((x:Int)+y+cr) % 4294967296))=.int .u32 (((cr+x+y) % 4294967296:Nat):Int):=by congr 1;omega
    rw [kz,← e];exact hown1
   case measure=>simp [intOf];omega
  have hkk:k=n+1:=by omega
  have hv:val L=val l+val l':=by
   have h1:=HI.out.2;have h2:=cF wa.1;have h3:=cF wb.1;rw [aX L (by rw [HLk.out];exact Qr),aX l (by rw [← HL.out];omega),aX l' (by rw [← HL'.out];omega)] at h1;have h4:4294967296 ^ l.length≤4294967296 ^ (k - 1):=Nat.pow_le_pow_right (by omega) (by rw [← HL.out];omega);have h5:4294967296 ^ l'.length≤4294967296 ^ (k - 1):=Nat.pow_le_pow_right (by omega) (by rw [← HL'.out];omega);have h6:4294967296 ^ k=4294967296 ^ (k - 1) * 4294967296:=by rw [← Nat.pow_succ];congr 1;omega
   rcases (show cr=0∨cr=1 by omega) with rfl | rfl
   ·omega
   omega
  have HV:=Qh hv;obtain ⟨gx,cap,rfl,_,_⟩:=HO.out.form (by omega);clear hv hkk;go_wp2_with fail;(with_reducible refine (fJ _ _ k cap L ?_ ?_).mono ?_);(exact Wd.of_own HO.out HI.out.1);(omega);rintro e w1 ⟨A1,n1,c1,rfl,h1,hb1⟩;go_wp2;go_ret;rw [HV.out] at h1;exact ⟨_,_,_,rfl,h1,hbel.trans (hb1.mono hbel.size)⟩
theorem nS (w:World) (A n c l) (wa:Wd w A n c l) (hn:n≤1099511627776) (A' n' c' l') (wb:Wd w A' n' c' l') (hn':n'≤1099511627776) :
 Calls Tryz.prog 163 #[.slice A n c,.slice A' n' c'] w (fm w (am (val l+val l'))):=by
 rcases Nat.lt_or_ge n' n with h | h
 ·exact tZ w A n c l wa hn A' n' c' l' wb hn' h
 exact tY w A n c l wa hn A' n' c' l' wb hn' h
theorem dw (w:World) (b:Bool) (A:Option Addr) (n c:Nat) (l:List Nat) (z:Int) (h:Wd w A n c l) (hn:n≤1099511627776) (hz:sgn b (val l)=z) :
 Calls Tryz.prog 129 #[.bool b,.slice A n c] w (ia w (wh z)):=by subst hz;exact tX w b A n c l h hn
theorem wN (w:World) (b:Bool) (A n c l) (wa:Wd w A n c l) (hn:n≤1099511627000) :
 Calls Tryz.prog 126 #[.agg #[.bool b,.slice A n c]] w (ia w (wh (-WD.z ⟨b,l⟩))):=by
 have HL:=Qh wa.2.1;go_in;go_wp2_with fail;have b0:Below w.heap.size w ((w.alloc (.cells #[.bool b,.slice A n c] 134)).alloc (.cells #[.bool false,.slice none 0 0] 134)):=(((Below.refl _ _).alloc Qr _).alloc (by simp) _);generalize hW0:((w.alloc (.cells #[.bool b,.slice A n c] 134)).alloc (.cells #[.bool false,.slice none 0 0] 134))=W0 at b0 ⊢;have c00:W0.cell? ⟨w.heap.size,0,none⟩=some (.bool b):=by subst hW0;simp [go_sem]
 have f00:W0.frozen? ⟨w.heap.size,0,none⟩=false:=by subst hW0;simp [go_sem]
 have c01:W0.cell? ⟨w.heap.size,1,none⟩=some (.slice A n c):=by subst hW0;simp [go_sem]
 have f01:W0.frozen? ⟨w.heap.size,1,none⟩=false:=by subst hW0;simp [go_sem]
 have c10:W0.cell? ⟨w.heap.size+1,0,none⟩=some (.bool false):=by subst hW0;simp [go_sem]
 have f10:W0.frozen? ⟨w.heap.size+1,0,none⟩=false:=by subst hW0;simp [go_sem]
 have c11:W0.cell? ⟨w.heap.size+1,1,none⟩=some (.slice none 0 0):=by subst hW0;simp [go_sem]
 have f11:W0.frozen? ⟨w.heap.size+1,1,none⟩=false:=by subst hW0;simp [go_sem]
 have x0:Box W0 w.heap.size 134:=by subst hW0;exact (bG _ _ _ (by simp)).alloc _
 have x1:Box W0 (w.heap.size+1) 134:=by subst hW0;exact bG _ _ _ (by simp)
 have hm0:ix (w.heap.size+1) (w.heap.size+1+1) 2 W0:=by subst hW0;exact lL (by simp)
 have hs0:w.heap.size+1+1≤W0.heap.size:=by subst hW0;simp
 clear hW0;have wa:=wa.belw b0;have r0:Below W0.heap.size W0 W0:=aa _;have hRB:w.heap.size+1≤w.heap.size+1+1:=by omega
 go_region_held3 (fun w'=>Sees (w.heap.size+1) W0 w') (first | exact Sees.of (Nat.le_trans hRB hs0) (by assumption) | exact Sees.of (Nat.le_trans hRB hs0) (af (by assumption) _) | exact (Sees.set (Sees.of (Nat.le_trans hRB hs0) (by assumption)) (by simp)) | exact (Sees.set (Sees.set (Sees.of (Nat.le_trans hRB hs0) (by assumption)) (by simp)) (by simp)))
  (first
   | (go_at_call 160;(with_reducible refine (mA _ b A n c l ?_ ?_).mono ?_);(exact wa);(omega);rintro e w1 ⟨rfl,hb1⟩;replace hb1:=ah (af (aa _) 1) hb1;have r1:=ah r0 hb1;replace wa:=wa.belw hb1)
   | (go_at_call 159;(with_reducible refine (fo _ b A n c l ?_ ?_).mono ?_);(exact wa);(omega);rintro e w2 ⟨A1,n1,c1,rfl,h1,hb2⟩;have r2:=ah r1 hb2;replace wa:=wa.belw hb2)
   | (go_at_call 129;(with_reducible refine (dw _ (!WD.s ⟨b,l⟩) A1 n1 c1 (WD.m ⟨b,l⟩) (-WD.z ⟨b,l⟩) ?_ ?_ ?_).mono ?_);(exact h1);(exact Nat.le_trans (h1.m_len (by rw [← HL.out];exact hn)) (by decide));(exact (xT _).symm);rintro e w3 ⟨A2,n2,c2,rfl,h2,hb3⟩;have r3:=ah r2 hb3;replace wa:=wa.belw hb3;replace h1:=h1.belw hb3;obtain ⟨⟨sc,sf⟩,sr,sz⟩:=bj.of (by omega) hs0 hm0 r3))
 clear hRB;go_wp2_with fail;refine bodyPost_ret (v:=.agg #[.bool _,.slice A2 n2 c2]) (by simp [results,Tryz.results126,go_sem,sr];rfl) rfl ?_;have x:=x1.below r3;refine jB ?_ ?_ ?_
 ·rfl
 ·exact h2.keep (kp2 x (by decide) _ _ _ _)
 exact ((b0.trans (r3.mono b0.size)).setCell (by dsimp only;omega) _).setCell (by dsimp only;omega) _
theorem yE (w:World) (i:Int) (h0:-9223372036854775808≤i) (h1:i < 9223372036854775808) :
 Calls Tryz.prog 87 #[.int .i64 i] w (ia w (wh i)):=by
 obtain ⟨v,hv⟩:∃ v:Nat,v=i.natAbs:=⟨_,rfl⟩;have hv2:v < 18446744073709551616:=by omega
 have hval:val [v % 4294967296,v / 4294967296]=v:=by simp [val];omega
 have HV:=Qh hval;by_cases hneg:i < 0
 ·have e1:IntKind.u64.wrap i=i+18446744073709551616:=by unfold IntKind.wrap;simp [IntKind.bits,IntKind.signed];omega
  have e2:IntKind.u64.wrap (-(i+18446744073709551616))=(v:Int):=by unfold IntKind.wrap;simp [IntKind.bits,IntKind.signed];omega
  have e3:decide (i < 0)=true:=by simp;omega
  have e4:IntKind.u32.wrap (v:Int)=((v % 4294967296:Nat):Int):=by unfold IntKind.wrap;simp [IntKind.bits,IntKind.signed]
  have e5:IntKind.u32.wrap ((v:Int) / 4294967296)=((v / 4294967296:Nat):Int):=by unfold IntKind.wrap;simp [IntKind.bits,IntKind.signed];omega
  have HZ:=Qh (show sgn true v=i by simp [sgn];omega);have HV2:=Qh hv2;clear hv hval hv2 hneg h0 h1;go_in;go_wp2_with (go_at_call 129;(with_reducible refine (dw _ true (some ⟨w.heap.size+1,0,none⟩) 2 2 [v % 4294967296,v / 4294967296] i ?_ ?_ ?_).mono ?_);(exact iB (w.alloc _) _ (by simp) _ _ v (by simp) (by simp) HV2.out);(omega);(rw [HV.out];exact HZ.out);rintro e w1 ⟨A1,n1,c1,rfl,h1,hb⟩;obtain ⟨hc,hf⟩:=bS hb);have hc0:w1.cell? ⟨w.heap.size,0,none⟩=some (.bool false):=(hc w.heap.size 0 (by simp;omega)).trans (by simp [go_sem]);have hc1:w1.cell? ⟨w.heap.size,1,none⟩=some (.slice none 0 0):=(hc w.heap.size 1 (by simp;omega)).trans (by simp [go_sem]);refine bodyPost_ret (v:=.agg #[.bool _,.slice A1 n1 c1]) (by simp [results,Tryz.results87,go_sem,hc0,hc1];rfl) rfl ?_;have x:=((bG w #[.bool false,.slice none 0 0] 134 rfl).alloc _).below hb;refine jB ?_ ?_ ?_
  ·rfl
  ·exact h1.keep (kp2 x (by decide) _ _ _ _)
  exact ((((((Below.refl _ _).alloc Qr _).alloc (by simp) _).trans (hb.mono (by simp;omega)))).setCell (by dsimp only;omega) _).setCell (by dsimp only;omega) _
 have e1:IntKind.u64.wrap i=(v:Int):=by unfold IntKind.wrap;simp [IntKind.bits,IntKind.signed];omega
 have e3:decide (i < 0)=false:=by simp;omega
 have e4:IntKind.u32.wrap (v:Int)=((v % 4294967296:Nat):Int):=by unfold IntKind.wrap;simp [IntKind.bits,IntKind.signed]
 have e5:IntKind.u32.wrap ((v:Int) / 4294967296)=((v / 4294967296:Nat):Int):=by unfold IntKind.wrap;simp [IntKind.bits,IntKind.signed];omega
 have HZ:=Qh (show sgn false v=i by simp [sgn];omega);have HV2:=Qh hv2;clear hv hval hv2 hneg h0 h1;go_in;go_wp2_with (go_at_call 129;(with_reducible refine (dw _ false (some ⟨w.heap.size+1,0,none⟩) 2 2 [v % 4294967296,v / 4294967296] i ?_ ?_ ?_).mono ?_);(exact iB (w.alloc _) _ (by simp) _ _ v (by simp) (by simp) HV2.out);(omega);(rw [HV.out];exact HZ.out);rintro e w1 ⟨A1,n1,c1,rfl,h1,hb⟩;obtain ⟨hc,hf⟩:=bS hb);have hc0:w1.cell? ⟨w.heap.size,0,none⟩=some (.bool false):=(hc w.heap.size 0 (by simp;omega)).trans (by simp [go_sem]);have hc1:w1.cell? ⟨w.heap.size,1,none⟩=some (.slice none 0 0):=(hc w.heap.size 1 (by simp;omega)).trans (by simp [go_sem]);refine bodyPost_ret (v:=.agg #[.bool _,.slice A1 n1 c1]) (by simp [results,Tryz.results87,go_sem,hc0,hc1];rfl) rfl ?_;have x:=((bG w #[.bool false,.slice none 0 0] 134 rfl).alloc _).below hb;refine jB ?_ ?_ ?_
 ·rfl
 ·exact h1.keep (kp2 x (by decide) _ _ _ _)
 exact ((((((Below.refl _ _).alloc Qr _).alloc (by simp) _).trans (hb.mono (by simp;omega)))).setCell (by dsimp only;omega) _).setCell (by dsimp only;omega) _
theorem nT (w:World) (b:Bool) (A n c l) (wa:Wd w A n c l) (hn:n≤1099511627000) :
 Calls Tryz.prog 125 #[.agg #[.bool b,.slice A n c]] w (aB w (.int .i64 (WD.z ⟨b,l⟩).sign)):=by
 have hz:=WD.z_eq ⟨b,l⟩;have hcan:aO (WD.m ⟨b,l⟩):=WD.canon_m wa.1;by_cases hm:WD.m ⟨b,l⟩=[]
 ·have HE:=Qh (show (WD.z ⟨b,l⟩).sign=0 by rw [hz,hm];cases WD.s ⟨b,l⟩ <;> rfl)
  have HM:=Qh hm;clear hz hm hcan;go_in;go_wp2_with fail;(with_reducible refine (fo _ b A n c l ?_ ?_).mono ?_);(exact wa.keep ((Kp.refl _).alloc _));(omega);rintro e w1 ⟨A1,n1,c1,rfl,h1,hb⟩;have hn1:n1=0:=by rw [h1.2.1,HM.out];rfl
  subst hn1;go_wp2;go_ret;exact cJ HE.out.symm (((Below.refl _ _).alloc Qr _).trans (hb.mono (by simp)))
 obtain ⟨s,hs⟩:∃ s,WD.s ⟨b,l⟩=s:=⟨_,rfl⟩;have hv:val (WD.m ⟨b,l⟩)≠0:=fun e=>hm ((cN hcan).1 e)
 have HE:=Qh (show (WD.z ⟨b,l⟩).sign=if s then -1 else 1 by
  rw [hz,hs];cases s
  ·simp only [sgn];exact Int.sign_eq_one_of_pos (by simp;omega)
  simp only [sgn];exact Int.sign_eq_neg_one_of_neg (by simp;omega))
 have HM:=Qh hm;have HS:=Qh hs;clear hz hm hcan hs hv;go_in;go_wp2_with fail;(with_reducible refine (fo _ b A n c l ?_ ?_).mono ?_);(exact wa.keep ((Kp.refl _).alloc _));(omega);rintro e w1 ⟨A1,n1,c1,rfl,h1,hb⟩;have hn1:n1≠0:=fun e=>HM.out (List.eq_nil_of_length_eq_zero (by rw [← h1.2.1,e]))
 have e0:((n1:Int) == 0)=false:=by simp;omega
 have q:Below w.heap.size w w1:=((Below.refl _ _).alloc Qr _).trans (hb.mono (by simp));have x:Blk w1 w.heap.size 134 #[.bool b,.slice A n c]:=(ak w _ _ rfl).below hb (by simp);have cx0:=x.c2;clear hb hn1;go_wp2_with fail;(with_reducible refine (mA _ b A n c l ?_ ?_).mono ?_);(exact wa.belw q);(omega);rintro e w2 ⟨rfl,hb2⟩;rw [HS.out];cases s
 all_goals
  go_wp2;go_ret;exact cJ HE.out.symm (q.trans (hb2.mono q.size))
section
variable (w:World) (b A n c z k) (h:IZ w b A n c z k) (b' A' n' c' z' k') (h':IZ w b' A' n' c' z' k')
include h
theorem qP (hk:k≤1000000000):Calls Tryz.prog 126 #[.agg #[.bool b,.slice A n c]] w (jE w (-z) k):=by
 have hz:=h.lt;obtain ⟨l,h1,rfl,h3⟩:=h;exact (wN w b A n c l h1 (by omega)).mono fun _ _ r=>r.i (by omega)
theorem t7 (hk:k≤1000000000):Calls Tryz.prog 125 #[.agg #[.bool b,.slice A n c]] w (aB w (.int .i64 z.sign)):=by
 obtain ⟨l,h1,rfl,h3⟩:=h;exact nT w b A n c l h1 (by omega)
include h'
end
theorem yF (w:World) (i:Int) (k:Nat) (h0:-9223372036854775808≤i) (h1:i < 9223372036854775808) (hs:i.natAbs < 4294967296 ^ k):Calls Tryz.prog 87 #[.int .i64 i] w (jE w i k) :=
 (yE w i h0 h1).mono fun _ _ r=>r.i hs
theorem qQ (w:World) (i:Int) (h0:-4294967296 < i) (h1:i < 4294967296):Calls Tryz.prog 87 #[.int .i64 i] w (jE w i 1):=yF w i 1 (by omega) (by omega) (by omega)

def OwS (w:World) (B g n cap:Nat) (l:List Nat):Prop:=w.ownsRow B 173 1 (.slice (some ⟨g,0,none⟩) n cap) n (words l)∧Wds l
theorem OwS.len {w:World}{B g n cap:Nat}{l:List Nat}(h:OwS w B g n cap l):n=l.length:=by have:=h.1.1;rw [cD] at this;omega
theorem OwS.base {w:World}{B g n cap:Nat}{l:List Nat}(h:OwS w B g n cap l):B≤g:=du h.1 g rfl
theorem OwS.toWd {w:World}{B g n cap:Nat}{l:List Nat}(h:OwS w B g n cap l):Wd w (some ⟨g,0,none⟩) n cap l:=Wd.of_own h.1 h.2
theorem OwS.cell {w:World}{B g n cap:Nat}{l:List Nat}(h:OwS w B g n cap l) (i:Nat) (hi:i < n):w.cell? ⟨g,i,none⟩=some (.int .u32 (wd l i:Nat)):=by
 rw [h.1.cellAt i (by omega)];exact jA (by rw [← h.len];exact hi)
theorem OwS.frozen {w:World}{B g n cap:Nat}{l:List Nat}(h:OwS w B g n cap l) (i:Nat):w.frozen? ⟨g,i,none⟩=false:=h.1.frozenAt i
theorem OwS.lt {w:World}{B g n cap:Nat}{l:List Nat}(h:OwS w B g n cap l):g < w.heap.size:=by
 rcases h.1.2 with ⟨e,_⟩ | ⟨g',c',cur,e,_,hg,_⟩
 ·cases e
 injection e with e;injection e with e;injection e with e;subst e;exact lt_of_block hg
theorem OwS.cap {w:World}{B g n cap:Nat}{l:List Nat}(h:OwS w B g n cap l):n≤cap:=h.toWd.2.2.1
theorem OwS.cut {w:World}{B g n cap:Nat}{l:List Nat}(h:OwS w B g n cap l) {k:Nat}(hk:k≤n):OwS w B g k cap (l.take k):=by
 have hl:=h.len;refine ⟨⟨by rw [cD,List.length_take];omega,?_⟩,Wds.take h.2 k⟩;rcases h.1.2 with ⟨e,_⟩ | ⟨g',c',cur,e,hb,hg,hc,hm,hs,ht⟩
 ·cases e
 injection e with e1 _ e2;injection e1 with e1;injection e1 with e1;subst e1 e2;refine .inr ⟨g,cap,cur,rfl,hb,hg,by omega,hm,hs,?_⟩;have:words (l.take k)=(words l).take k:=by simp [words,List.map_take]
 rw [this,← ht,List.take_take];congr 1;omega
theorem rV (l:List Nat) (i x:Nat):(words l).set i (.int .u32 (x:Nat))=words (l.set i x):=by simp [words,List.map_set]
theorem OwS.set {w:World}{B g n cap:Nat}{l:List Nat}(h:OwS w B g n cap l) (i:Nat) {x:Nat}(hx:x < 4294967296) {z:Int}(hz:z=x):OwS (w.setCell ⟨g,i,none⟩ (.int .u32 z)) B g n cap (l.set i x):=by
 subst hz;refine ⟨?_,wds_set h.2 i hx⟩;rw [← rV];exact (h.1.stored i _).1
def dR (g:Nat) (w w':World):Prop:=Below g w w'∧w'.heap.size=w.heap.size∧∀ b,b≠g→w'.heap[b]?=w.heap[b]?
theorem dR.refl (g:Nat) (w:World):dR g w w:=⟨Below.refl _ _,rfl,fun _ _=>rfl⟩
theorem dR.set {g:Nat}{w w':World}(h:dR g w w') (i:Nat) (u:Value):dR g w (w'.setCell ⟨g,i,none⟩ u) :=
 ⟨h.1.setCell (p:=⟨g,i,none⟩) Qr u,by rw [← h.2.1];simp [World.setCell],fun b hb=>(Below.heap_setCell w' ⟨g,i,none⟩ u b hb).trans (h.2.2 b hb)⟩
theorem dR.trans {g:Nat}{a b c:World}(h:dR g a b) (k:dR g b c):dR g a c:=⟨h.1.trans k.1,k.2.1.trans h.2.1,fun x hx=>(k.2.2 x hx).trans (h.2.2 x hx)⟩
theorem dR.own {g:Nat}{w w':World}(h:dR g w w') {B g' n cap:Nat}{l:List Nat}(k:OwS w B g' n cap l) (hg:g'≠g):OwS w' B g' n cap l:=by
 refine ⟨⟨k.1.1,?_⟩,k.2⟩;rcases k.1.2 with ⟨e,_⟩ | ⟨g1,c',cur,e,hb,hgg,r⟩
 ·cases e
 have e':=e;injection e with e1 _ e2;injection e1 with e1;injection e1 with e1;subst e1;exact .inr ⟨g',c',cur,e',hb,(h.2.2 _ hg).trans hgg,r⟩
theorem dR.wd {g:Nat}{w w':World}(h:dR g w w') {g' o n c:Nat}{l:List Nat}(k:Wd w (some ⟨g',o,none⟩) n c l) (hg:g'≠g):Wd w' (some ⟨g',o,none⟩) n c l:=by
 refine ⟨k.1,k.2.1,k.2.2.1,fun hn=>?_⟩;obtain ⟨g1,o1,cur,fr,e,hb,hc⟩:=k.2.2.2 hn;have e':=e;injection e with e1;injection e1 with e1;subst e1;exact ⟨_,o1,cur,fr,e',hb.same (h.2.2 _ hg),hc⟩
def Bm (w:World) (l:List Nat) (e:Ending) (w':World):Prop:=∃ g k cap,e=.returned (.slice (some ⟨g,0,none⟩) k cap)∧OwS w' w.heap.size g k cap l∧Below w.heap.size w w'
theorem iE (w:World) (A:Option Addr) (n c:Nat) (l:List Nat) (h:Wd w A n c l) (hn:n≤4398046511104) :
 Calls Tryz.prog 165 #[.slice A n c] w (Bm w (am (val l))):=by
 have HL:=Qh h.2.1;have hcap:n≤c:=h.2.2.1;obtain ⟨i0,hi0,hz0,hz1,hz2⟩:=info_parts dP;by_cases h0:n=0
 ·subst h0
  have HE:=Qh (show am (val l)=[] by rw [List.eq_nil_of_length_eq_zero HL.out.symm];exact av);clear h hn;go_in;go_wp2_with (at_builtin;refine dF rfl _ _ _ rfl 173 i0 Tryz.underlying52 hi0 _ _ _ rfl rfl ?_);go_loop [3] (fun v=>v=.slice (some ⟨w.heap.size,0,none⟩) 0 0) (fun _=>0)
  case atStart=>rfl
  case round =>
   subst hrel;go_wp2;go_ret;refine ⟨_,_,_,rfl,?_,(Below.refl _ _).alloc Qr _⟩;rw [HE.out];exact ⟨World.ownsRow_lit (e:=173) (size:=1) w #[] 0 Qr (by simp [maxLen]) rfl,by simp [Wds]⟩
 obtain ⟨g,o,rfl,hc⟩:=h.at_ (by omega);clear hc;have hp:0 < n:=by omega
 have hown:=World.ownsRow_lit (e:=173) (size:=1) w #[] 0 Qr (by simp [maxLen]) rfl;have hnews:=(h.keep ((Kp.refl w).alloc (.cells #[] 173))).news (by omega) Qr;have hnl:(words (l.take n)).length=n * 1:=by rw [cD,List.length_take,← HL.out];omega
 have HO:=Qh hown;have HN:=Qh hnews;have HNL:=Qh hnl;have HW:=Qh h.1;clear hown hnews hnl h h0;go_in;go_wp2_with (at_builtin;refine wpList_append_lies _ rfl _ _ _ rfl w.heap.size 173 i0 (.int .u32 0) 1 4 Tryz.underlying52 hi0 hz0 hz1 hz2 rfl (by omega) _ 0 [] rfl HO.out ⟨g,o,none⟩ n c (words (l.take n)) rfl HNL.out HN.out (eT _) (by omega) (by unfold maxLen;omega) (by omega) (by simp) (w.heap.size+1) (by simp) ?_;intro gx cap w1 hown1 hgrow hat hlt1);simp only [Nat.zero_add,List.nil_append] at hown1;have hw1:=Wd.of_own hown1 (Wds.take HW.out n);rw [List.take_of_length_le (Nat.le_of_eq HL.out.symm)] at hw1;have hbel:=((Below.refl w.heap.size w).alloc Qr (.cells #[] 173)).grown hgrow (by simp) (fun b hb=>Nat.le_of_eq (Option.some.inj hb));have HW1:=Qh hw1;rw [List.take_of_length_le (Nat.le_of_eq HL.out.symm)] at hown1;have HOW:=Qh (show OwS w1 w.heap.size gx n cap l from ⟨hown1,HW.out⟩);have HB:=Qh hbel;have hcap1:n≤cap:=hw1.2.2.1;clear hown1 hgrow hat hw1 hbel HO HN HNL;go_loop [3] (fun v=>∃ k:Nat,k≤n∧v=.slice (some ⟨gx,0,none⟩) k cap∧qH l k) (fun v=>match v with | .slice _ k _=>k | _=>0)
 case atStart=>exact ⟨n,Qr,by simp,fun i hi=>dN (by rw [← HL.out];exact hi)⟩
 case round =>
  obtain ⟨k,hk,rfl,ht⟩:=hrel;by_cases h0:k=0
  ·subst h0
   have HT:=Qh ht;clear ht;go_wp2;go_ret;refine ⟨_,_,_,rfl,?_,HB.out⟩;have:=bD HW.out (Nat.zero_le _) HT.out (.inl rfl);rw [this];exact HOW.out.cut (Nat.zero_le _)
  have hkp:0 < k:=by omega
  obtain ⟨g',o',e,hc⟩:=HW1.out.at_ (by omega);injection e with e;injection e with e1 e2;subst e1 e2;have hck:=hc (k - 1) (by omega);rw [Nat.zero_add] at hck;have hlt:=HW1.out.lt (k - 1);have HT:=Qh ht;generalize hx:wd l (k - 1)=x at *;have HX:=Qh hx;clear hc h0 ht hx;by_cases hz:x=0
  ·subst hz
   go_wp2;go_round
   case rel=>exact ⟨k - 1,by omega,rfl,fun i hi=>by
    by_cases he:i=k - 1
    ·subst he;exact HX.out
    exact HT.out i (by omega)⟩
   case measure=>dsimp only;omega
  have hz':((x:Int) == 0)=false:=by simp;omega
  have HZ:=Qh hz;clear hz;go_wp2;go_ret;have hd:=bD HW.out (by rw [← HL.out];exact hk) HT.out (.inr (by rw [HX.out];exact HZ.out));refine ⟨_,_,_,rfl,?_,HB.out⟩;rw [hd];exact HOW.out.cut hk
def Bo (w:World) (B g cap:Nat) (l:List Nat) (e:Ending) (w':World):Prop:=∃ k,e=.returned (.slice (some ⟨g,0,none⟩) k cap)∧OwS w' B g k cap l∧w=w'
theorem iG (w:World) (B g n cap:Nat) (l:List Nat) (h:OwS w B g n cap l) (hn:n≤4398046511104) :
 Calls Tryz.prog 194 #[.slice (some ⟨g,0,none⟩) n cap] w (Bo w B g cap (am (val l))):=by
 have hcap:=h.cap;have HL:=Qh h.len;have HO:=Qh h;clear h;go_in;go_wp2_with fail;go_loop [0] (fun v=>∃ k:Nat,k≤n∧v=.slice (some ⟨g,0,none⟩) k cap∧qH l k) (fun v=>match v with | .slice _ k _=>k | _=>0)
 case atStart=>exact ⟨n,Qr,rfl,fun i hi=>dN (by rw [← HL.out];exact hi)⟩
 case round =>
  obtain ⟨k,hk,rfl,ht⟩:=hrel;by_cases h0:k=0
  ·subst h0
   have HT:=Qh ht;clear ht;go_wp2;go_ret;refine ⟨_,rfl,?_,rfl⟩;have:=bD HO.out.2 (Nat.zero_le _) HT.out (.inl rfl);rw [this];exact HO.out.cut (Nat.zero_le _)
  have hkp:0 < k:=by omega
  have hck:=HO.out.cell (k - 1) (by omega);have hlt:=bF HO.out.2 (k - 1);have HT:=Qh ht;generalize hx:wd l (k - 1)=x at *;have HX:=Qh hx;clear h0 ht hx;by_cases hz:x=0
  ·subst hz
   go_wp2;go_round
   case rel=>exact ⟨k - 1,by omega,rfl,fun i hi=>by
    by_cases he:i=k - 1
    ·subst he;exact HX.out
    exact HT.out i (by omega)⟩
   case measure=>dsimp only;omega
  have hz':((x:Int) == 0)=false:=by simp;omega
  have HZ:=Qh hz;clear hz;go_wp2;go_ret;have hd:=bD HO.out.2 (by rw [← HL.out];exact hk) HT.out (.inr (by rw [HX.out];exact HZ.out));refine ⟨_,rfl,?_,rfl⟩;rw [hd];exact HO.out.cut hk

theorem ua {x y:Nat}(hx:x < 4294967296):(x / 2 ||| y * 2147483648) % 4294967296=x / 2+(y % 2) * 2147483648:=by
 have h1:x / 2 < 2 ^ 31:=by omega
 have h2:y * 2147483648 ||| x / 2=y * 2147483648+x / 2:=by
  have:=Nat.shiftLeft_add_eq_or_of_lt h1 y;rw [Nat.shiftLeft_eq] at this;exact this.symm
 rw [Nat.or_comm,h2];omega
def eJ (l L:List Nat) (j:Nat):Prop:=Wds L∧L.length=l.length∧(∀ i,j≤i→wd L i=wd l i)∧2 * Sm (wd L) j+wd l 0 % 2=Sm (wd l) j+wd l j % 2 * 4294967296 ^ j
theorem eJ.start {l:List Nat}(h:Wds l):eJ l l 0:=⟨h,rfl,fun _ _=>rfl,by simp [Sm]⟩
theorem eJ.step {l L:List Nat}{j:Nat}(h:eJ l L j) (hj:j < l.length) (hl:Wds l):eJ l (L.set j (wd l j / 2+(wd l (j+1) % 2) * 2147483648)) (j+1):=by
 obtain ⟨h1,h2,h3,h4⟩:=h;have hx:=bF hl j;refine ⟨wds_set h1 j (by omega),by rw [List.length_set];exact h2,fun i hi=>?_,?_⟩
 ·rw [bP,if_neg (by omega)];exact h3 i (by omega)
 rw [bM _ _ _ (by omega),Sm];generalize wd l j=x at *;generalize wd l (j+1)=y at *;generalize wd l 0=z at *;rw [Nat.pow_succ]
 have e:2 * ((x / 2+y % 2 * 2147483648) * 4294967296 ^ j)+x % 2 * 4294967296 ^ j=x * 4294967296 ^ j+y % 2 * (4294967296 ^ j * 4294967296):=by
  have hx2:x=2 * (x / 2)+x % 2:=by omega
  generalize x / 2=p at *;generalize x % 2=r at *;subst hx2;generalize 4294967296 ^ j=P
  grind
 omega
theorem eJ.fin {l L:List Nat}(h:eJ l L l.length):val L=val l / 2:=by
 obtain ⟨h1,h2,h3,h4⟩:=h;rw [aX L (by omega),aX l Qr,dN Qr] at h4;omega
theorem rX {x y:Nat}(hx:x < 4294967296) (hy:y < 4294967296) {s:Int}(hs:bits .or .u64 ((x:Int) / 2) ((y:Int) * 2147483648)=s):IntKind.u32.wrap s=((x / 2+y % 2 * 2147483648:Nat):Int):=by
 have e1:(x:Int) / 2=((x / 2:Nat):Int):=by omega
 have e2:(y:Int) * 2147483648=((y * 2147483648:Nat):Int):=by simp
 rw [e1,e2,u64_or_nat _ _ (by omega) (by omega)] at hs;subst hs;rw [IntKind.wrap_u32];have:=ua (y:=y) hx;omega
def Bp (w:World) (B g cap:Nat) (l:List Nat) (e:Ending) (w':World):Prop:=∃ k,e=.returned (.slice (some ⟨g,0,none⟩) k cap)∧OwS w' B g k cap l∧dR g w w'
theorem dJ (w:World) (B g n cap:Nat) (l:List Nat) (h:OwS w B g n cap l) (hn:n≤1099511627776) :
 Calls Tryz.prog 191 #[.slice (some ⟨g,0,none⟩) n cap] w (Bp w B g cap (am (val l / 2))):=by
 have hcap:=h.cap;have hlen:=h.len;have HL:=Qh h.len;have HW:=Qh h.2;have HS:=Qh (eJ.start h.2);have HO:=Qh h;clear h hlen;go_in;go_wp2_with fail;go_loopw [6] (fun iv wr=>∃ (j:Nat) (L:List Nat),j≤n∧iv=.int .i64 (j:Nat)∧eJ l L j∧OwS wr B g n cap L∧dR g w wr) (fun iv _=>n - (intOf iv).toNat)
 case atStart=>exact ⟨0,l,Nat.zero_le _,rfl,HS.out,HO.out,dR.refl _ _⟩
 case round =>
  obtain ⟨j,L,hj,rfl,hI,hw,hon⟩:=hrel;have HI:=Qh hI;have HWr:=Qh hw;have HOn:=Qh hon;clear hI hw hon;by_cases hlt:j < n
  ·obtain ⟨x,y,hx,hy⟩:∃ x y,wd l j=x∧wd l (j+1)=y:=⟨_,_,rfl,rfl⟩
   have hx1:x < 4294967296:=by rw [← hx];exact bF HW.out j
   have hy1:y < 4294967296:=by rw [← hy];exact bF HW.out (j+1)
   have HX:=Qh (show wd L j=x by rw [HI.out.2.2.1 j Qr,hx]);have HY:=Qh (show wd L (j+1)=y by rw [HI.out.2.2.1 (j+1) (by omega),hy]);have HXY:=Qh (And.intro hx hy);have hck:=HWr.out.cell j hlt;have hfk:=HWr.out.frozen j;obtain ⟨s,hs⟩:∃ s,bits .or .u64 ((x:Int) / 2) ((y:Int) * 2147483648)=s:=⟨_,rfl⟩;have e32:=rX hx1 hy1 hs;have HE:=Qh e32;have ej:((j:Int)+1)=((j+1:Nat):Int):=by omega
   have HEJ:=Qh ej;clear hx hy ej
   go_wp2_with (first
    | (go_at_call 196;(with_reducible refine (bN _ (some ⟨g,0,none⟩) n cap L ?_ j x HX.out (by omega)).mono ?_);exact HWr.out.toWd;rintro e w' ⟨rfl,rfl⟩)
    | (go_at_call 196;rw [HEJ.out];(with_reducible refine (bN _ (some ⟨g,0,none⟩) n cap L ?_ (j+1) y HY.out (by omega)).mono ?_);exact HWr.out.toWd;rintro e w' ⟨rfl,rfl⟩))
   go_roundw
   case rel =>
    have hst:=HI.out.step (by rw [← HL.out];exact hlt) HW.out;rw [HXY.out.1,HXY.out.2] at hst;exact ⟨j+1,_,by omega,by go_num,hst,HWr.out.set j (by omega) (by omega),HOn.out.set j _⟩
   case measure=>simp [intOf];omega
  have hjn:j=n:=by omega
  subst hjn;have HV:=Qh (show val L=val l / 2 from eJ.fin (by have:=HI.out;rw [HL.out] at this;exact this));go_wp2_with fail;(with_reducible refine (iG _ B g j cap L ?_ ?_).mono ?_);(exact HWr.out);(omega);rintro e w1 ⟨k,rfl,h1,rfl⟩;go_wp2;go_ret;rw [HV.out] at h1;exact ⟨k,rfl,h1,HOn.out⟩

theorem dR.wd_ {g:Nat}{w w':World}(h:dR g w w') {A:Option Addr}{n c:Nat}{l:List Nat}(k:Wd w A n c l) (hne:∀ ad,A=some ad→ad.block≠g):Wd w' A n c l:=by
 refine ⟨k.1,k.2.1,k.2.2.1,fun hn=>?_⟩;obtain ⟨g1,o1,cur,fr,e,hb,hc⟩:=k.2.2.2 hn;exact ⟨g1,o1,cur,fr,e,hb.same (h.2.2 _ (hne _ e)),hc⟩
def Ad (w:World) (B g n cap:Nat) (v:Nat) (e:Ending) (w':World):Prop:=∃ L,e=.returned (.tuple #[])∧OwS w' B g n cap L∧val L=v∧dR g w w'
def Ae (l l' L:List Nat) (k br:Nat):Prop:=xS l l' L k br∧L.length=l.length∧∀ i,k≤i→wd L i=wd l i
theorem fK (w:World) (B g n cap:Nat) (l:List Nat) (h:OwS w B g n cap l) (hn:n≤1099511627776) (A' n' c' l') (wb:Wd w A' n' c' l') (hne:∀ ad,A'=some ad→ad.block≠g) (hn':n'≤n) (hv:val l'≤val l) :
 Calls Tryz.prog 193 #[.slice (some ⟨g,0,none⟩) n cap,.slice A' n' c'] w (Ad w B g n cap (val l - val l')):=by
 have hcap:=h.cap;have HL:=Qh h.len;have HL':=Qh wb.2.1;have HW:=Qh h.2;have HV:=Qh hv;have HO:=Qh h;have HWB:=Qh wb;have HNE:=Qh hne;clear h hv wb hne;go_in;go_wp2_with fail;go_loopw [4,9] (fun cv iv wr=>∃ (k br:Nat) (L:List Nat),k≤n∧iv=.int .i64 (k:Nat)∧cv=.int .u64 (br:Nat)∧br≤1∧Ae l l' L k br∧OwS wr B g n cap L∧dR g w wr) (fun _ iv _=>n - (intOf iv).toNat)
 case atStart=>exact ⟨0,0,l,Nat.zero_le _,rfl,rfl,by omega,⟨⟨HW.out,by simp [Sm]⟩,rfl,fun _ _=>rfl⟩,HO.out,dR.refl _ _⟩
 case round =>
  obtain ⟨k,br,L,hk,rfl,rfl,hbr,hI,hw,hon⟩:=hrel;have HI:=Qh hI;have HWr:=Qh hw;have HOn:=Qh hon;clear hI hw hon;by_cases hkM:k < n
  ·obtain ⟨x,y,hx,hy⟩:∃ x y,wd l k=x∧wd l' k=y:=⟨_,_,rfl,rfl⟩
   have hx1:x < 4294967296:=by rw [← hx];exact bF HW.out k
   have hy1:y < 4294967296:=by rw [← hy];exact HWB.out.lt k
   have HX:=Qh (show wd L k=x by rw [HI.out.2.2 k Qr,hx]);have HY:=Qh hy;have HXl:=Qh hx;have hck:=HWr.out.cell k hkM;have hfk:=HWr.out.frozen k;clear hx hy
   go_wp2_with (first
    | (go_at_call 196;(with_reducible refine (bN _ (some ⟨g,0,none⟩) n cap L ?_ k x HX.out (by omega)).mono ?_);exact HWr.out.toWd;rintro e w' ⟨rfl,rfl⟩)
    | (go_at_call 196;(with_reducible refine (bN _ A' n' c' l' ?_ k y HY.out (by omega)).mono ?_);exact HOn.out.wd_ HWB.out HNE.out;rintro e w' ⟨rfl,rfl⟩))
   go_roundw
   case rel =>
    refine ⟨k+1,1 - (4294967296+x - y - br) / 4294967296,L.set k ((4294967296+x - y - br) % 4294967296),by omega,by go_num,by congr 1;omega,by omega,⟨⟨wds_set HI.out.1.1 _ (Nat.mod_lt _ (by omega)),?_⟩,by rw [List.length_set];exact HI.out.2.1,fun i hi=>?_⟩,HWr.out.set k (Nat.mod_lt _ (by omega)) (by omega),HOn.out.set k _⟩
    ·rw [bM _ _ _ (by rw [HI.out.2.1,← HL.out];exact hkM),Sm,Sm,HXl.out,HY.out,Nat.pow_succ]
     exact lM HI.out.1.2 (by omega)
    rw [bP,if_neg (by omega)];exact HI.out.2.2 i (by omega)
   case measure=>simp [intOf];omega
  have hkk:k=n:=by omega
  subst hkk
  have hv2:val L=val l - val l':=by
   have h1:=HI.out.1.2;have h2:=cF HI.out.1.1;have h3:=HV.out;have h4:=HI.out.2.1;have h5:=HL.out;rw [h4,← h5] at h2;rw [aX L (by omega),aX l (by omega),aX l' (by rw [← HL'.out];omega)] at h1;rcases (show br=0∨br=1 by omega) with rfl | rfl
   ·omega
   omega
  have HV2:=Qh hv2;clear hv2;go_wp2_with fail;go_end0;exact ⟨L,rfl,HWr.out,HV2.out,HOn.out⟩

def Two (w wr:World) (N:Nat) (va vb:Value) (x y:Nat):Prop:=∃ ga na ca gb nb cb,va=.slice (some ⟨ga,0,none⟩) na ca∧vb=.slice (some ⟨gb,0,none⟩) nb cb∧OwS wr w.heap.size ga na ca (am x)∧OwS wr w.heap.size gb nb cb (am y)∧ga≠gb∧Below w.heap.size w wr∧x < 4294967296 ^ N∧y < 4294967296 ^ N
theorem eB {w:World}{B g n cap x N:Nat}(h:OwS w B g n cap (am x)) (hx:x < 4294967296 ^ N):n≤N:=by rw [h.len];exact ar hx
theorem cS {w:World}{B g n cap x:Nat}(h:OwS w B g n cap (am x)) (hx:0 < x):0 < n:=by
 rw [h.len];rcases Nat.eq_zero_or_pos (am x).length with h1 | h1
 ·have:=aP.1 (List.eq_nil_of_length_eq_zero h1);omega
 exact h1
theorem ub (x:Nat):wd (am x) 0=x % 4294967296:=by
 by_cases h:x=0
 ·subst h;rw [av];rfl
 rw [eP h];rfl
theorem eV {w:World}{B g n cap x:Nat}(h:OwS w B g n cap (am x)) (hx:0 < x):w.cell? ⟨g,0,none⟩=some (.int .u32 ((x % 4294967296:Nat):Int)):=by
 rw [← ub];exact h.cell 0 (cS h hx)
theorem mB (p:Nat) (hp:p < 4294967296):Go.bits .and .u32 (p:Int) 1=((p % 2:Nat):Int):=by
 have:=u32_and_nat p 1 hp (by decide);rw [Nat.and_one_is_mod] at this;exact this
theorem dS {p:Nat}(hp:p < 4294967296) (h:p % 2=0):(Go.bits .and .u32 (p:Int) 1 == 0)=true:=by rw [mB p hp,h];rfl
theorem gh {p:Nat}(hp:p < 4294967296) (h:p % 2=1):(Go.bits .and .u32 (p:Int) 1 == 0)=false:=by rw [mB p hp,h];rfl
theorem OwS.of_digs {w:World}{B g n cap v x:Nat}(h:OwS w B g n cap (am (val (am v) / x))):OwS w B g n cap (am (v / x)):=by rw [ag] at h;exact h
theorem Two.left {w wr w1:World}{N ga na ca gb nb cb x y u k:Nat}(hT:Two w wr N (.slice (some ⟨ga,0,none⟩) na ca) (.slice (some ⟨gb,0,none⟩) nb cb) x y) (ho:OwS w1 w.heap.size ga k ca (am u)) (hon:dR ga wr w1) (hu:u≤x):Two w w1 N (.slice (some ⟨ga,0,none⟩) k ca) (.slice (some ⟨gb,0,none⟩) nb cb) u y:=by
 obtain ⟨ga',na',ca',gb',nb',cb',e1,e2,oa,ob,hg,hbl,hxN,hyN⟩:=hT;injection e1 with e1 e3 e4;injection e1 with e1;injection e1 with e1;injection e2 with e2 e5 e6;injection e2 with e2;injection e2 with e2;subst e1 e2 e3 e4 e5 e6;exact ⟨ga,k,ca,gb,nb,cb,rfl,rfl,ho,hon.own ob (Ne.symm hg),hg,hbl.trans (hon.1.mono oa.base),Nat.lt_of_le_of_lt hu hxN,hyN⟩
theorem Two.swap {w wr:World}{N:Nat}{va vb:Value}{x y:Nat}(hT:Two w wr N va vb x y):Two w wr N vb va y x:=by
 obtain ⟨ga,na,ca,gb,nb,cb,e1,e2,oa,ob,hg,hbl,hxN,hyN⟩:=hT;exact ⟨gb,nb,cb,ga,na,ca,e2,e1,ob,oa,Ne.symm hg,hbl,hyN,hxN⟩
theorem aU {w:World}{B g n cap x:Nat}(h:OwS w B g n cap (am x)):valOf w (.slice (some ⟨g,0,none⟩) n cap)=x:=by rw [h.toWd.valOf,ag]
theorem Two.at_ {w wr:World}{N ga na ca gb nb cb x y:Nat}(hT:Two w wr N (.slice (some ⟨ga,0,none⟩) na ca) (.slice (some ⟨gb,0,none⟩) nb cb) x y):OwS wr w.heap.size ga na ca (am x)∧OwS wr w.heap.size gb nb cb (am y)∧ga≠gb∧Below w.heap.size w wr∧x < 4294967296 ^ N∧y < 4294967296 ^ N:=by
 obtain ⟨ga',na',ca',gb',nb',cb',e1,e2,h⟩:=hT;injection e1 with e1 e3 e4;injection e1 with e1;injection e1 with e1;injection e2 with e2 e5 e6;injection e2 with e2;injection e2 with e2;subst e1 e2 e3 e4 e5 e6;exact h
theorem OwS.belw {w w':World}{B g n cap:Nat}{l:List Nat}(h:OwS w B g n cap l) (hb:Below w.heap.size w w'):OwS w' B g n cap l:=by
 refine ⟨⟨h.1.1,?_⟩,h.2⟩;rcases h.1.2 with ⟨e,_⟩ | ⟨g',cap',cur,e,hb1,hgg,r⟩
 ·cases e
 exact .inr ⟨g',cap',cur,e,hb1,(hb.block g' (lt_of_block hgg)).trans hgg,r⟩
theorem Two.belw {w wr w1:World}{N:Nat}{va vb:Value}{x y:Nat}(hT:Two w wr N va vb x y) (hb:Below wr.heap.size wr w1):Two w w1 N va vb x y:=by
 obtain ⟨ga,na,ca,gb,nb,cb,e1,e2,oa,ob,hg,hbl,hxN,hyN⟩:=hT;exact ⟨ga,na,ca,gb,nb,cb,e1,e2,oa.belw hb,ob.belw hb,hg,hbl.trans (hb.mono hbl.size),hxN,hyN⟩
theorem dk {a b:Nat}(h:a≤b):(am a).length≤(am b).length:=ar (Nat.lt_of_le_of_lt h (by have:=cF (dL b);rwa [ag] at this))
theorem Two.form {w wr:World}{N:Nat}{va vb:Value}{x y:Nat}(hT:Two w wr N va vb x y):∃ ga na ca gb nb cb,va=.slice (some ⟨ga,0,none⟩) na ca∧vb=.slice (some ⟨gb,0,none⟩) nb cb:=by
 obtain ⟨ga,na,ca,gb,nb,cb,e1,e2,_⟩:=hT;exact ⟨ga,na,ca,gb,nb,cb,e1,e2⟩
theorem rY {t x x0 N:Nat}(h:x0=2 ^ t * x) (hx:0 < x) (hN:x0 < 4294967296 ^ N):t < 32 * N:=by
 have h1:2 ^ t≤x0:=by rw [h];exact Nat.le_mul_of_pos_right _ hx
 have h2:(4294967296:Nat) ^ N=2 ^ (32 * N):=by rw [Nat.pow_mul]
 rw [h2] at hN;exact (Nat.pow_lt_pow_iff_right (by omega)).1 (Nat.lt_of_le_of_lt h1 hN)
theorem wO {x y:Nat}(h:¬ (x % 2=0∧y % 2=0)):Nat.gcd x y % 2=1:=by
 rcases Nat.mod_two_eq_zero_or_one (Nat.gcd x y) with h1 | h1
 ·exfalso
  have h2:2 ∣ Nat.gcd x y:=Nat.dvd_of_mod_eq_zero h1;exact h ⟨Nat.mod_eq_zero_of_dvd (Nat.dvd_trans h2 (Nat.gcd_dvd_left x y)),Nat.mod_eq_zero_of_dvd (Nat.dvd_trans h2 (Nat.gcd_dvd_right x y))⟩
 exact h1
theorem iI {u v G:Nat}(h:Nat.gcd u v=G) (hG:G % 2=1) (hu:u % 2=0):Nat.gcd (u / 2) v=G:=by
 have hv:v % 2=1:=by
  rcases Nat.mod_two_eq_zero_or_one v with h1 | h1
  ·exfalso
   have h2:2 ∣ Nat.gcd u v:=Nat.dvd_gcd (Nat.dvd_of_mod_eq_zero hu) (Nat.dvd_of_mod_eq_zero h1);rw [h] at h2;have:=Nat.mod_eq_zero_of_dvd h2;omega
  exact h1
 rw [ln hu hv];exact h
theorem wQ (w:World) (N:Nat) (hN:N≤1099511627000) (A n c l) (wa:Wd w A n c l) (hn:n≤N) (A' n' c' l') (wb:Wd w A' n' c' l') (hn':n'≤N) (h0:val l≠0) (h0':val l'≠0) :
 Calls Tryz.prog 161 #[.slice A n c,.slice A' n' c'] w (fm w (am (Nat.gcd (val l) (val l')))):=by
 have hvl:=wa.vlt hn;have hvl':=wb.vlt hn';obtain ⟨x0,hx0⟩:∃ x,val l=x:=⟨_,rfl⟩;obtain ⟨y0,hy0⟩:∃ y,val l'=y:=⟨_,rfl⟩;rw [hx0] at hvl h0;rw [hy0] at hvl' h0';rw [hx0,hy0];have HX0:=Qh hx0;have HY0:=Qh hy0;have HVX:=Qh hvl;have HVY:=Qh hvl';have hxp:0 < x0:=by omega
 have hyp:0 < y0:=by omega
 clear hx0 hy0 hvl hvl' h0 h0';go_in;go_wp2_with fail;(with_reducible refine (iE _ A n c l ?_ ?_).mono ?_);(exact wa);(omega);rintro e w1 ⟨ga,na,ca,rfl,h1,hb1⟩;rw [HX0.out] at h1;go_wp2_with fail;(with_reducible refine (iE _ A' n' c' l' ?_ ?_).mono ?_);(exact wb.belw hb1);(omega);rintro e w2 ⟨gb,nb,cb,rfl,h2,hb2⟩;rw [HY0.out] at h2;have hg:ga≠gb:=by have:=h1.lt;have:=h2.base;omega
 have h1':OwS w2 w.heap.size ga na ca (am x0):=by
  refine ⟨⟨h1.1.1,?_⟩,h1.2⟩;rcases h1.1.2 with ⟨e,_⟩ | ⟨g',cap',cur,e,hb,hgg,r⟩
  ·cases e
  exact .inr ⟨g',cap',cur,e,hb,(hb2.block g' (lt_of_block hgg)).trans hgg,r⟩
 have h2':OwS w2 w.heap.size gb nb cb (am y0):=by
  refine ⟨⟨h2.1.1,?_⟩,h2.2⟩;rcases h2.1.2 with ⟨e,_⟩ | ⟨g',cap',cur,e,hb,r⟩
  ·cases e
  exact .inr ⟨g',cap',cur,e,Nat.le_trans hb1.size hb,r⟩
 have HT:=Qh (show Two w w2 N (.slice (some ⟨ga,0,none⟩) na ca) (.slice (some ⟨gb,0,none⟩) nb cb) x0 y0 from ⟨ga,na,ca,gb,nb,cb,rfl,rfl,h1',h2',hg,hb1.trans (hb2.mono hb1.size),HVX.out,HVY.out⟩);have ea:((na:Int) == 0)=false:=by have:=cS h1 hxp;simp;omega
 have eb:((nb:Int) == 0)=false:=by have:=cS h2 hyp;simp;omega
 clear h1 h2 h1' h2' hb1 hb2 hg;go_wp2_with fail;go_loopw [0,1,5] (fun va vb tv wr=>∃ (x y t:Nat),Two w wr N va vb x y∧tv=.int .i64 (t:Nat)∧0 < x∧0 < y∧x0=2 ^ t * x∧y0=2 ^ t * y) (fun va _ _ wr=>valOf wr va)
 case atStart=>exact ⟨x0,y0,0,HT.out,rfl,hxp,hyp,by simp,by simp⟩
 case round =>
  obtain ⟨x,y,t,hT,rfl,hx,hy,hex,hey⟩:=hrel;obtain ⟨ga,na,ca,gb,nb,cb,rfl,rfl⟩:=hT.form;have HT:=Qh hT;have hca:=eV hT.at_.1 hx;have hcb:=eV hT.at_.2.1 hy;have hna:=cS hT.at_.1 hx;have hnb:=cS hT.at_.2.1 hy;have hnaN:=eB hT.at_.1 hT.at_.2.2.2.2.1;have hnbN:=eB hT.at_.2.1 hT.at_.2.2.2.2.2;obtain ⟨p,hp⟩:∃ p,x % 4294967296=p:=⟨_,rfl⟩;obtain ⟨q,hq⟩:∃ q,y % 4294967296=q:=⟨_,rfl⟩;rw [hp] at hca;rw [hq] at hcb;have hp1:p < 4294967296:=by omega
  have hq1:q < 4294967296:=by omega
  have hpx:x % 2=p % 2:=by omega
  have hqy:y % 2=q % 2:=by omega
  have ht:t < 32 * N:=rY hex hx HVX.out;have HE:=Qh (And.intro hex hey);have HP:=Qh (And.intro hpx hqy);clear hex hey hp hq hpx hqy hT;by_cases hpe:p % 2=0∧q % 2=0
  ·have ea:=dS hp1 hpe.1
   have eb:=dS hq1 hpe.2;have HPE:=Qh hpe;clear hpe;go_wp2_with fail;(with_reducible refine (dJ _ w.heap.size ga na ca (am x) ?_ ?_).mono ?_);(exact HT.out.at_.1);(omega);rintro e w1 ⟨k1,rfl,o1,hon1⟩;have HT1:=Qh (HT.out.left o1.of_digs hon1 (Nat.div_le_self _ _));clear o1 hon1 hca hcb;go_wp2_with fail;(with_reducible refine (dJ _ w.heap.size gb nb cb (am y) ?_ ?_).mono ?_);(exact HT1.out.at_.2.1);(omega);rintro e w2 ⟨k2,rfl,o2,hon2⟩;have HT2:=Qh (HT1.out.swap.left o2.of_digs hon2 (Nat.div_le_self _ _)).swap;clear o2 hon2;go_wp2_with fail;go_roundw
   case rel =>
    have h1:x=2 * (x / 2):=by have:=HP.out.1;have:=HPE.out.1;omega
    have h2:y=2 * (y / 2):=by have:=HP.out.2;have:=HPE.out.2;omega
    exact ⟨x / 2,y / 2,t+1,HT2.out,by go_num,by omega,by omega,by rw [HE.out.1,Nat.pow_succ,Nat.mul_assoc,← h1],by rw [HE.out.2,Nat.pow_succ,Nat.mul_assoc,← h2]⟩
   case measure =>
    rw [aU HT2.out.at_.1,aU HT.out.at_.1];omega
  have hGo:Nat.gcd x y % 2=1:=wO (by intro h;exact hpe ⟨by have:=HP.out.1;omega,by have:=HP.out.2;omega⟩);obtain ⟨G,hG⟩:∃ G,Nat.gcd x y=G:=⟨_,rfl⟩;rw [hG] at hGo;have HG:=Qh (And.intro hG hGo);have hGp:0 < G:=by omega
  clear hG hGo;rcases (show p % 2=1∨(p % 2=0∧q % 2=1) by omega) with h1 | ⟨h1,h2⟩
  ·have ea:=gh hp1 h1
   clear hpe h1;go_wp2_with fail;clear ea
   try clear eb
   have e5:0 < nb:=hnb;clear hca hcb hp1 hq1 hna hnb hnaN hnbN;go_loopw [0,1] (fun va vb wr=>∃ (u v:Nat),Two w wr N va vb u v∧0 < v∧Nat.gcd u v=G) (fun va vb wr=>valOf wr va+valOf wr vb)
   case atStart=>exact ⟨x,y,HT.out,hy,HG.out.1⟩
   case round =>
    rename_i wr2;obtain ⟨u,v,hT2,hv,hgu⟩:=hrel;obtain ⟨ga2,na2,ca2,gb2,nb2,cb2,rfl,rfl⟩:=hT2.form;have HT2:=Qh hT2;have HGU:=Qh hgu;clear hT2 hgu;by_cases hu:u=0
    ·subst hu
     have e0:na2=0:=by rw [HT2.out.at_.1.len,av];rfl
     subst e0;have HVG:=Qh (show v=G by have:=HGU.out;simpa using this);go_wp2_with fail;go_loopw [1,65] (fun vb iv wr=>∃ (j:Nat) (B:Option Addr) (m cc:Nat),vb=.slice B m cc∧Wd wr B m cc (am (2 ^ j * G))∧m≤N∧iv=.int .i64 (j:Nat)∧j≤t∧Below w.heap.size w wr) (fun _ iv _=>t - (intOf iv).toNat)
     case atStart =>
      have:=HVG.out;subst this;exact ⟨0,_,_,_,rfl,by simpa using HT2.out.at_.2.1.toWd,eB HT2.out.at_.2.1 HT2.out.at_.2.2.2.2.2,rfl,Nat.zero_le _,HT2.out.at_.2.2.2.1⟩
     case round =>
      obtain ⟨j,B,m,cc,rfl,hw,hm,rfl,hj,hbl⟩:=hrel;have HW:=Qh hw;have HB:=Qh hbl;clear hw hbl;by_cases hlt:j < t
      ·go_wp2_with fail
       (with_reducible refine (nS _ B m cc (am (2 ^ j * G)) ?_ ?_ B m cc (am (2 ^ j * G)) ?_ ?_).mono ?_);(exact HW.out);(omega);(exact HW.out);(omega);rintro e w4 ⟨B',m',cc',rfl,h4,hb4⟩;have hz:val (am (2 ^ j * G))+val (am (2 ^ j * G))=2 ^ (j+1) * G:=by rw [ag,Nat.pow_succ];grind
       rw [hz] at h4;have HZ:=Qh hz;have H4:=Qh h4;clear hz h4;go_wp2_with fail;go_roundw
       case rel =>
        refine ⟨j+1,B',m',cc',rfl,H4.out,?_,by go_num,by omega,HB.out.trans (hb4.mono HB.out.size)⟩;rw [H4.out.2.1];refine ar (Nat.lt_of_le_of_lt ?_ HVX.out);rw [HE.out.1];refine Nat.le_trans (Nat.mul_le_mul_right G (Nat.pow_le_pow_right (by omega) (show j+1≤t by omega))) (Nat.mul_le_mul_left _ ?_);rw [← HG.out.1];exact Nat.gcd_le_left _ hx
       case measure=>simp [intOf];omega
      have hjt:j=t:=by omega
      subst hjt;go_wp2;go_ret;refine ⟨B,m,cc,rfl,?_,HB.out⟩;rw [HE.out.1,HE.out.2,Nat.gcd_mul_left,HG.out.1];exact HW.out
    have hup:0 < u:=by omega
    have hnap:=cS HT2.out.at_.1 hup;go_wp2_with fail;go_loopw [0] (fun va wr=>∃ (u':Nat),Two w wr N va (.slice (some ⟨gb2,0,none⟩) nb2 cb2) u' v∧0 < u'∧Nat.gcd u' v=G∧u'≤u) (fun va wr=>valOf wr va)
    case atStart=>exact ⟨u,HT2.out,hup,HGU.out,Qr⟩
    case round =>
     rename_i wr3;obtain ⟨u',hT3,hu',hgu3,hle3⟩:=hrel;obtain ⟨ga3,na3,ca3,_,_,_,rfl,_⟩:=hT3.form;have HT3:=Qh hT3;have HGU3:=Qh hgu3;have hc3:=eV hT3.at_.1 hu';have hn3:=cS hT3.at_.1 hu';have hn3N:=eB hT3.at_.1 hT3.at_.2.2.2.2.1;obtain ⟨p3,hp3⟩:∃ p,u' % 4294967296=p:=⟨_,rfl⟩;rw [hp3] at hc3;have hp31:p3 < 4294967296:=by omega
     have hpu:u' % 2=p3 % 2:=by omega
     clear hT3 hgu3 hp3;by_cases hpe3:p3 % 2=0
     ·have ea3:=dS hp31 hpe3
      have HU2:=Qh (show u' % 2=0 by omega);clear hpe3 hpu;go_wp2_with fail;(with_reducible refine (dJ _ w.heap.size ga3 na3 ca3 (am u') ?_ ?_).mono ?_);(exact HT3.out.at_.1);(omega);rintro e w4 ⟨k4,rfl,o4,hon4⟩;have HT4:=Qh (HT3.out.left o4.of_digs hon4 (Nat.div_le_self _ _));clear o4 hon4 hc3;go_wp2_with fail;go_roundw
      case rel =>
       have:=HU2.out;exact ⟨u' / 2,HT4.out,by omega,iI HGU3.out HG.out.2 this,by omega⟩
      case measure =>
       rw [aU HT4.out.at_.1,aU HT3.out.at_.1];have:=HU2.out;omega
     have ea3:=gh hp31 (show p3 % 2=1 by omega);clear hpe3 hpu;go_wp2_with fail;clear ea3 hc3;go_loopw [1] (fun vb wr=>∃ (v':Nat),Two w wr N (.slice (some ⟨ga3,0,none⟩) na3 ca3) vb u' v'∧0 < v'∧Nat.gcd u' v'=G∧v'≤v) (fun vb wr=>valOf wr vb)
     case atStart=>exact ⟨v,HT3.out,hv,HGU3.out,Qr⟩
     case round =>
      rename_i wr5;obtain ⟨v',hT5,hv',hgu5,hle5⟩:=hrel;obtain ⟨_,_,_,gb5,nb5,cb5,_,rfl⟩:=hT5.form;have HT5:=Qh hT5;have HGU5:=Qh hgu5;have hc5:=eV hT5.at_.2.1 hv';have hn5:=cS hT5.at_.2.1 hv';have hn5N:=eB hT5.at_.2.1 hT5.at_.2.2.2.2.2;obtain ⟨p5,hp5⟩:∃ p,v' % 4294967296=p:=⟨_,rfl⟩;rw [hp5] at hc5;have hp51:p5 < 4294967296:=by omega
      have hpv:v' % 2=p5 % 2:=by omega
      clear hT5 hgu5 hp5;by_cases hpe5:p5 % 2=0
      ·have ea5:=dS hp51 hpe5
       have HU2:=Qh (show v' % 2=0 by omega);clear hpe5 hpv;go_wp2_with fail;(with_reducible refine (dJ _ w.heap.size gb5 nb5 cb5 (am v') ?_ ?_).mono ?_);(exact HT5.out.at_.2.1);(omega);rintro e w6 ⟨k6,rfl,o6,hon6⟩;have HT6:=Qh (HT5.out.swap.left o6.of_digs hon6 (Nat.div_le_self _ _)).swap;clear o6 hon6 hc5;go_wp2_with fail;go_roundw
       case rel =>
        have:=HU2.out;exact ⟨v' / 2,HT6.out,by omega,by rw [Nat.gcd_comm];exact iI (by rw [Nat.gcd_comm];exact HGU5.out) HG.out.2 this,by omega⟩
       case measure =>
        rw [aU HT6.out.at_.2.1,aU HT5.out.at_.2.1];have:=HU2.out;omega
      have ea5:=gh hp51 (show p5 % 2=1 by omega);clear hpe5 hpv;go_wp2_with fail;clear ea5 hc5;(with_reducible refine (eu _ (some ⟨ga3,0,none⟩) na3 ca3 (am u') ?_ ?_ (some ⟨gb5,0,none⟩) nb5 cb5 (am v') ?_ ?_).mono ?_);(exact HT5.out.at_.1.toWd);(omega);(exact HT5.out.at_.2.1.toWd);(omega);rintro e w6 ⟨rfl,hb6⟩;have HT6:=Qh (HT5.out.belw hb6);clear hb6;rw [ag,ag];by_cases hlt:u' < v'
      ·rw [show bq u' v'=-1 by unfold bq;rw [if_pos hlt]]
       have HLE:=Qh (Nat.le_of_lt hlt);clear hlt;go_wp2_with fail;(with_reducible refine (fK _ w.heap.size gb5 nb5 cb5 (am v') ?_ ?_ (some ⟨ga3,0,none⟩) na3 ca3 (am u') ?_ ?_ ?_ ?_).mono ?_);(exact HT6.out.at_.2.1);(omega);(exact HT6.out.at_.1.toWd);(intro ad e;injection e with e;subst e;exact HT6.out.at_.2.2.1);(rw [HT6.out.at_.2.1.len,HT6.out.at_.1.len];exact dk HLE.out);(rw [ag,ag];exact HLE.out);rintro e w7 ⟨L,rfl,o7,hv7,hon7⟩;rw [ag,ag] at hv7;have HV7:=Qh hv7;have HO7:=Qh o7;have HON7:=Qh hon7;clear hv7 o7 hon7;go_wp2_with fail;(with_reducible refine (iG _ w.heap.size gb5 nb5 cb5 L ?_ ?_).mono ?_);(exact HO7.out);(omega);rintro e w8 ⟨k8,rfl,o8,rfl⟩;rw [HV7.out] at o8;have HT8:=Qh (HT6.out.swap.left o8 HON7.out (Nat.sub_le _ _));clear o8;go_wp2_with fail;go_roundw
       case rel=>exact ⟨v' - u',u',HT8.out,hu',by rw [j7 HLE.out];rw [Nat.gcd_comm];exact HGU5.out⟩
       case measure =>
        rw [aU HT8.out.at_.1,aU HT8.out.at_.2.1,aU HT2.out.at_.1,aU HT2.out.at_.2.1];have:=HLE.out;omega

      ·have hcn:decide (bq u' v' < 0)=false:=by unfold bq;rw [if_neg hlt];split <;> decide
       have HLE:=Qh (Nat.le_of_not_lt hlt);obtain ⟨cm,hcm⟩:∃ cm,bq u' v'=cm:=⟨_,rfl⟩;rw [hcm] at hcn ⊢;clear hlt hcm;go_wp2_with fail;(with_reducible refine (fK _ w.heap.size ga3 na3 ca3 (am u') ?_ ?_ (some ⟨gb5,0,none⟩) nb5 cb5 (am v') ?_ ?_ ?_ ?_).mono ?_);(exact HT6.out.at_.1);(omega);(exact HT6.out.at_.2.1.toWd);(intro ad e;injection e with e;subst e;exact Ne.symm HT6.out.at_.2.2.1);(rw [HT6.out.at_.1.len,HT6.out.at_.2.1.len];exact dk HLE.out);(rw [ag,ag];exact HLE.out);rintro e w7 ⟨L,rfl,o7,hv7,hon7⟩;rw [ag,ag] at hv7;have HV7:=Qh hv7;have HO7:=Qh o7;have HON7:=Qh hon7;clear hv7 o7 hon7;go_wp2_with fail;(with_reducible refine (iG _ w.heap.size ga3 na3 ca3 L ?_ ?_).mono ?_);(exact HO7.out);(omega);rintro e w8 ⟨k8,rfl,o8,rfl⟩;rw [HV7.out] at o8;have HT8:=Qh (HT6.out.left o8 HON7.out (Nat.sub_le _ _));clear o8;go_wp2_with fail;go_roundw
       case rel=>exact ⟨u' - v',v',HT8.out,hv',by rw [j7 HLE.out];exact HGU5.out⟩
       case measure =>
        rw [aU HT8.out.at_.1,aU HT8.out.at_.2.1,aU HT2.out.at_.1,aU HT2.out.at_.2.1];have:=HLE.out;omega


  ·have ea:=dS hp1 h1
   have eb:=gh hq1 h2;clear h2;clear hpe h1;go_wp2_with fail;clear ea
   try clear eb
   have e5:0 < nb:=hnb;clear hca hcb hp1 hq1 hna hnb hnaN hnbN;go_loopw [0,1] (fun va vb wr=>∃ (u v:Nat),Two w wr N va vb u v∧0 < v∧Nat.gcd u v=G) (fun va vb wr=>valOf wr va+valOf wr vb)
   case atStart=>exact ⟨x,y,HT.out,hy,HG.out.1⟩
   case round =>
    rename_i wr2;obtain ⟨u,v,hT2,hv,hgu⟩:=hrel;obtain ⟨ga2,na2,ca2,gb2,nb2,cb2,rfl,rfl⟩:=hT2.form;have HT2:=Qh hT2;have HGU:=Qh hgu;clear hT2 hgu;by_cases hu:u=0
    ·subst hu
     have e0:na2=0:=by rw [HT2.out.at_.1.len,av];rfl
     subst e0;have HVG:=Qh (show v=G by have:=HGU.out;simpa using this);go_wp2_with fail;go_loopw [1,65] (fun vb iv wr=>∃ (j:Nat) (B:Option Addr) (m cc:Nat),vb=.slice B m cc∧Wd wr B m cc (am (2 ^ j * G))∧m≤N∧iv=.int .i64 (j:Nat)∧j≤t∧Below w.heap.size w wr) (fun _ iv _=>t - (intOf iv).toNat)
     case atStart =>
      have:=HVG.out;subst this;exact ⟨0,_,_,_,rfl,by simpa using HT2.out.at_.2.1.toWd,eB HT2.out.at_.2.1 HT2.out.at_.2.2.2.2.2,rfl,Nat.zero_le _,HT2.out.at_.2.2.2.1⟩
     case round =>
      obtain ⟨j,B,m,cc,rfl,hw,hm,rfl,hj,hbl⟩:=hrel;have HW:=Qh hw;have HB:=Qh hbl;clear hw hbl;by_cases hlt:j < t
      ·go_wp2_with fail
       (with_reducible refine (nS _ B m cc (am (2 ^ j * G)) ?_ ?_ B m cc (am (2 ^ j * G)) ?_ ?_).mono ?_);(exact HW.out);(omega);(exact HW.out);(omega);rintro e w4 ⟨B',m',cc',rfl,h4,hb4⟩;have hz:val (am (2 ^ j * G))+val (am (2 ^ j * G))=2 ^ (j+1) * G:=by rw [ag,Nat.pow_succ];grind
       rw [hz] at h4;have HZ:=Qh hz;have H4:=Qh h4;clear hz h4;go_wp2_with fail;go_roundw
       case rel =>
        refine ⟨j+1,B',m',cc',rfl,H4.out,?_,by go_num,by omega,HB.out.trans (hb4.mono HB.out.size)⟩;rw [H4.out.2.1];refine ar (Nat.lt_of_le_of_lt ?_ HVX.out);rw [HE.out.1];refine Nat.le_trans (Nat.mul_le_mul_right G (Nat.pow_le_pow_right (by omega) (show j+1≤t by omega))) (Nat.mul_le_mul_left _ ?_);rw [← HG.out.1];exact Nat.gcd_le_left _ hx
       case measure=>simp [intOf];omega
      have hjt:j=t:=by omega
      subst hjt;go_wp2;go_ret;refine ⟨B,m,cc,rfl,?_,HB.out⟩;rw [HE.out.1,HE.out.2,Nat.gcd_mul_left,HG.out.1];exact HW.out
    have hup:0 < u:=by omega
    have hnap:=cS HT2.out.at_.1 hup;go_wp2_with fail;go_loopw [0] (fun va wr=>∃ (u':Nat),Two w wr N va (.slice (some ⟨gb2,0,none⟩) nb2 cb2) u' v∧0 < u'∧Nat.gcd u' v=G∧u'≤u) (fun va wr=>valOf wr va)
    case atStart=>exact ⟨u,HT2.out,hup,HGU.out,Qr⟩
    case round =>
     rename_i wr3;obtain ⟨u',hT3,hu',hgu3,hle3⟩:=hrel;obtain ⟨ga3,na3,ca3,_,_,_,rfl,_⟩:=hT3.form;have HT3:=Qh hT3;have HGU3:=Qh hgu3;have hc3:=eV hT3.at_.1 hu';have hn3:=cS hT3.at_.1 hu';have hn3N:=eB hT3.at_.1 hT3.at_.2.2.2.2.1;obtain ⟨p3,hp3⟩:∃ p,u' % 4294967296=p:=⟨_,rfl⟩;rw [hp3] at hc3;have hp31:p3 < 4294967296:=by omega
     have hpu:u' % 2=p3 % 2:=by omega
     clear hT3 hgu3 hp3;by_cases hpe3:p3 % 2=0
     ·have ea3:=dS hp31 hpe3
      have HU2:=Qh (show u' % 2=0 by omega);clear hpe3 hpu;go_wp2_with fail;(with_reducible refine (dJ _ w.heap.size ga3 na3 ca3 (am u') ?_ ?_).mono ?_);(exact HT3.out.at_.1);(omega);rintro e w4 ⟨k4,rfl,o4,hon4⟩;have HT4:=Qh (HT3.out.left o4.of_digs hon4 (Nat.div_le_self _ _));clear o4 hon4 hc3;go_wp2_with fail;go_roundw
      case rel =>
       have:=HU2.out;exact ⟨u' / 2,HT4.out,by omega,iI HGU3.out HG.out.2 this,by omega⟩
      case measure =>
       rw [aU HT4.out.at_.1,aU HT3.out.at_.1];have:=HU2.out;omega
     have ea3:=gh hp31 (show p3 % 2=1 by omega);clear hpe3 hpu;go_wp2_with fail;clear ea3 hc3;go_loopw [1] (fun vb wr=>∃ (v':Nat),Two w wr N (.slice (some ⟨ga3,0,none⟩) na3 ca3) vb u' v'∧0 < v'∧Nat.gcd u' v'=G∧v'≤v) (fun vb wr=>valOf wr vb)
     case atStart=>exact ⟨v,HT3.out,hv,HGU3.out,Qr⟩
     case round =>
      rename_i wr5;obtain ⟨v',hT5,hv',hgu5,hle5⟩:=hrel;obtain ⟨_,_,_,gb5,nb5,cb5,_,rfl⟩:=hT5.form;have HT5:=Qh hT5;have HGU5:=Qh hgu5;have hc5:=eV hT5.at_.2.1 hv';have hn5:=cS hT5.at_.2.1 hv';have hn5N:=eB hT5.at_.2.1 hT5.at_.2.2.2.2.2;obtain ⟨p5,hp5⟩:∃ p,v' % 4294967296=p:=⟨_,rfl⟩;rw [hp5] at hc5;have hp51:p5 < 4294967296:=by omega
      have hpv:v' % 2=p5 % 2:=by omega
      clear hT5 hgu5 hp5;by_cases hpe5:p5 % 2=0
      ·have ea5:=dS hp51 hpe5
       have HU2:=Qh (show v' % 2=0 by omega);clear hpe5 hpv;go_wp2_with fail;(with_reducible refine (dJ _ w.heap.size gb5 nb5 cb5 (am v') ?_ ?_).mono ?_);(exact HT5.out.at_.2.1);(omega);rintro e w6 ⟨k6,rfl,o6,hon6⟩;have HT6:=Qh (HT5.out.swap.left o6.of_digs hon6 (Nat.div_le_self _ _)).swap;clear o6 hon6 hc5;go_wp2_with fail;go_roundw
       case rel =>
        have:=HU2.out;exact ⟨v' / 2,HT6.out,by omega,by rw [Nat.gcd_comm];exact iI (by rw [Nat.gcd_comm];exact HGU5.out) HG.out.2 this,by omega⟩
       case measure =>
        rw [aU HT6.out.at_.2.1,aU HT5.out.at_.2.1];have:=HU2.out;omega
      have ea5:=gh hp51 (show p5 % 2=1 by omega);clear hpe5 hpv;go_wp2_with fail;clear ea5 hc5;(with_reducible refine (eu _ (some ⟨ga3,0,none⟩) na3 ca3 (am u') ?_ ?_ (some ⟨gb5,0,none⟩) nb5 cb5 (am v') ?_ ?_).mono ?_);(exact HT5.out.at_.1.toWd);(omega);(exact HT5.out.at_.2.1.toWd);(omega);rintro e w6 ⟨rfl,hb6⟩;have HT6:=Qh (HT5.out.belw hb6);clear hb6;rw [ag,ag];by_cases hlt:u' < v'
      ·rw [show bq u' v'=-1 by unfold bq;rw [if_pos hlt]]
       have HLE:=Qh (Nat.le_of_lt hlt);clear hlt;go_wp2_with fail;(with_reducible refine (fK _ w.heap.size gb5 nb5 cb5 (am v') ?_ ?_ (some ⟨ga3,0,none⟩) na3 ca3 (am u') ?_ ?_ ?_ ?_).mono ?_);(exact HT6.out.at_.2.1);(omega);(exact HT6.out.at_.1.toWd);(intro ad e;injection e with e;subst e;exact HT6.out.at_.2.2.1);(rw [HT6.out.at_.2.1.len,HT6.out.at_.1.len];exact dk HLE.out);(rw [ag,ag];exact HLE.out);rintro e w7 ⟨L,rfl,o7,hv7,hon7⟩;rw [ag,ag] at hv7;have HV7:=Qh hv7;have HO7:=Qh o7;have HON7:=Qh hon7;clear hv7 o7 hon7;go_wp2_with fail;(with_reducible refine (iG _ w.heap.size gb5 nb5 cb5 L ?_ ?_).mono ?_);(exact HO7.out);(omega);rintro e w8 ⟨k8,rfl,o8,rfl⟩;rw [HV7.out] at o8;have HT8:=Qh (HT6.out.swap.left o8 HON7.out (Nat.sub_le _ _));clear o8;go_wp2_with fail;go_roundw
       case rel=>exact ⟨v' - u',u',HT8.out,hu',by rw [j7 HLE.out];rw [Nat.gcd_comm];exact HGU5.out⟩
       case measure =>
        rw [aU HT8.out.at_.1,aU HT8.out.at_.2.1,aU HT2.out.at_.1,aU HT2.out.at_.2.1];have:=HLE.out;omega

      ·have hcn:decide (bq u' v' < 0)=false:=by unfold bq;rw [if_neg hlt];split <;> decide
       have HLE:=Qh (Nat.le_of_not_lt hlt);obtain ⟨cm,hcm⟩:∃ cm,bq u' v'=cm:=⟨_,rfl⟩;rw [hcm] at hcn ⊢;clear hlt hcm;go_wp2_with fail;(with_reducible refine (fK _ w.heap.size ga3 na3 ca3 (am u') ?_ ?_ (some ⟨gb5,0,none⟩) nb5 cb5 (am v') ?_ ?_ ?_ ?_).mono ?_);(exact HT6.out.at_.1);(omega);(exact HT6.out.at_.2.1.toWd);(intro ad e;injection e with e;subst e;exact Ne.symm HT6.out.at_.2.2.1);(rw [HT6.out.at_.1.len,HT6.out.at_.2.1.len];exact dk HLE.out);(rw [ag,ag];exact HLE.out);rintro e w7 ⟨L,rfl,o7,hv7,hon7⟩;rw [ag,ag] at hv7;have HV7:=Qh hv7;have HO7:=Qh o7;have HON7:=Qh hon7;clear hv7 o7 hon7;go_wp2_with fail;(with_reducible refine (iG _ w.heap.size ga3 na3 ca3 L ?_ ?_).mono ?_);(exact HO7.out);(omega);rintro e w8 ⟨k8,rfl,o8,rfl⟩;rw [HV7.out] at o8;have HT8:=Qh (HT6.out.left o8 HON7.out (Nat.sub_le _ _));clear o8;go_wp2_with fail;go_roundw
       case rel=>exact ⟨u' - v',v',HT8.out,hv',by rw [j7 HLE.out];exact HGU5.out⟩
       case measure =>
        rw [aU HT8.out.at_.1,aU HT8.out.at_.2.1,aU HT2.out.at_.1,aU HT2.out.at_.2.1];have:=HLE.out;omega


theorem qR (w:World) (A n c l) (wa:Wd w A n c l) (hn:n≤1099511627000) (A' n' c' l') (wb:Wd w A' n' c' l') (hn':n'≤1099511627000) (h0:val l=0∨val l'=0) :
 Calls Tryz.prog 161 #[.slice A n c,.slice A' n' c'] w (fm w (am (Nat.gcd (val l) (val l')))):=by
 have H0:=Qh h0;clear h0;go_in;go_wp2_with fail;(with_reducible refine (iE _ A n c l ?_ ?_).mono ?_);(exact wa);(omega);rintro e w1 ⟨ga,na,ca,rfl,h1,hb1⟩;go_wp2_with fail;(with_reducible refine (iE _ A' n' c' l' ?_ ?_).mono ?_);(exact wb.belw hb1);(omega);rintro e w2 ⟨gb,nb,cb,rfl,h2,hb2⟩;have HB:=Qh (hb1.trans (hb2.mono hb1.size));have H1:=Qh (h1.belw hb2);have H2:=Qh h2;have hna:=h1.len;have hnb:=h2.len;clear h1 h2 hb1 hb2;by_cases hz:val l=0
 ·have e:na=0:=by rw [hna,hz,av];rfl
  have HG:=Qh (show am (Nat.gcd (val l) (val l'))=am (val l') by rw [hz,Nat.gcd_zero_left]);subst e;clear hna hnb hz;go_wp2;go_ret;exact ⟨_,_,_,rfl,by rw [HG.out];exact H2.out.toWd,HB.out⟩
 have hz2:val l'=0:=H0.out.resolve_left hz;have e:nb=0:=by rw [hnb,hz2,av];rfl
 have hp:0 < na:=by
  rw [hna];rcases Nat.eq_zero_or_pos (am (val l)).length with h | h
  ·exact absurd (aP.1 (List.eq_nil_of_length_eq_zero h)) hz
  exact h
 have e1:((na:Int) == 0)=false:=by simp;omega
 have HG:=Qh (show am (Nat.gcd (val l) (val l'))=am (val l) by rw [hz2,Nat.gcd_zero_right]);subst e;clear hna hnb hz hz2;go_wp2;go_ret;exact ⟨_,_,_,rfl,by rw [HG.out];exact H1.out.toWd,HB.out⟩
theorem rZ (w:World) (A n c l) (wa:Wd w A n c l) (hn:n≤1099511627000) (A' n' c' l') (wb:Wd w A' n' c' l') (hn':n'≤1099511627000) :
 Calls Tryz.prog 161 #[.slice A n c,.slice A' n' c'] w (fm w (am (Nat.gcd (val l) (val l')))):=by
 by_cases h:val l=0
 ·exact qR w A n c l wa hn A' n' c' l' wb hn' (.inl h)
 by_cases h':val l'=0
 ·exact qR w A n c l wa hn A' n' c' l' wb hn' (.inr h')
 exact wQ w 1099511627000 Qr A n c l wa hn A' n' c' l' wb hn' h h'
theorem wS {w w':World}{A:Option Addr}{n c:Nat}{l:List Nat}{A':Option Addr}{n' c':Nat}{l':List Nat}{N:Nat}(h:Wd w A n c l) (h':Wd w' A' n' c' l') (hn:n≤N) (hn':n'≤N):(am (Nat.gcd (val l) (val l'))).length≤N:=ar (pH (h.vlt hn) (h'.vlt hn'))
theorem wT (w:World) (b:Bool) (A n c l) (wa:Wd w A n c l) (hn:n≤1099511627000) (b':Bool) (A' n' c' l') (wb:Wd w A' n' c' l') (hn':n'≤1099511627000) :
 Calls Tryz.prog 127 #[.agg #[.bool b,.slice A n c],.agg #[.bool b',.slice A' n' c']] w (ia w (wh (Nat.gcd (WD.z ⟨b,l⟩).natAbs (WD.z ⟨b',l'⟩).natAbs:Nat))):=by
 have HL:=Qh wa.2.1;have HL':=Qh wb.2.1;rw [kx,kx];go_in;go_wp2_with fail;have b0:Below w.heap.size w (((w.alloc (.cells #[.bool b,.slice A n c] 134)).alloc (.cells #[.bool b',.slice A' n' c'] 134)).alloc (.cells #[.bool false,.slice none 0 0] 134)):=((((Below.refl _ _).alloc Qr _).alloc (by simp) _).alloc (by simp;omega) _);generalize hW0:(((w.alloc (.cells #[.bool b,.slice A n c] 134)).alloc (.cells #[.bool b',.slice A' n' c'] 134)).alloc (.cells #[.bool false,.slice none 0 0] 134))=W0 at b0 ⊢;have c00:W0.cell? ⟨w.heap.size,0,none⟩=some (.bool b):=by subst hW0;simp [go_sem]
 have f00:W0.frozen? ⟨w.heap.size,0,none⟩=false:=by subst hW0;simp [go_sem]
 have c01:W0.cell? ⟨w.heap.size,1,none⟩=some (.slice A n c):=by subst hW0;simp [go_sem]
 have f01:W0.frozen? ⟨w.heap.size,1,none⟩=false:=by subst hW0;simp [go_sem]
 have c10:W0.cell? ⟨w.heap.size+1,0,none⟩=some (.bool b'):=by subst hW0;simp [go_sem]
 have f10:W0.frozen? ⟨w.heap.size+1,0,none⟩=false:=by subst hW0;simp [go_sem]
 have c11:W0.cell? ⟨w.heap.size+1,1,none⟩=some (.slice A' n' c'):=by subst hW0;simp [go_sem]
 have f11:W0.frozen? ⟨w.heap.size+1,1,none⟩=false:=by subst hW0;simp [go_sem]
 have c20:W0.cell? ⟨w.heap.size+1+1,0,none⟩=some (.bool false):=by subst hW0;simp [go_sem]
 have f20:W0.frozen? ⟨w.heap.size+1+1,0,none⟩=false:=by subst hW0;simp [go_sem]
 have c21:W0.cell? ⟨w.heap.size+1+1,1,none⟩=some (.slice none 0 0):=by subst hW0;simp [go_sem]
 have f21:W0.frozen? ⟨w.heap.size+1+1,1,none⟩=false:=by subst hW0;simp [go_sem]
 have x0:Box W0 w.heap.size 134:=by subst hW0;exact ((bG _ _ _ (by simp)).alloc _).alloc _
 have x1:Box W0 (w.heap.size+1) 134:=by subst hW0;exact (bG _ _ _ (by simp)).alloc _
 have x2:Box W0 (w.heap.size+1+1) 134:=by subst hW0;exact bG _ _ _ (by simp)
 have hm0:ix (w.heap.size+1+1) (w.heap.size+1+1+1) 2 W0:=by subst hW0;exact lL (by simp)
 have hs0:w.heap.size+1+1+1≤W0.heap.size:=by subst hW0;simp
 clear hW0;have wa:=wa.belw b0;have wb:=wb.belw b0;have r0:Below W0.heap.size W0 W0:=aa _;have hRB:w.heap.size+1+1≤w.heap.size+1+1+1:=by omega
 go_region_held3 (fun w'=>Sees (w.heap.size+1+1) W0 w') (first | exact Sees.of (Nat.le_trans hRB hs0) (by assumption) | exact Sees.of (Nat.le_trans hRB hs0) (af (by assumption) _) | exact (Sees.set (Sees.of (Nat.le_trans hRB hs0) (by assumption)) (by simp)) | exact (Sees.set (Sees.set (Sees.of (Nat.le_trans hRB hs0) (by assumption)) (by simp)) (by simp)))
  (first
   | (go_at_call 159;(with_reducible refine (fo _ b A n c l ?_ ?_).mono ?_);(exact wa);(omega);rintro e w1 ⟨A1,n1,c1,rfl,h1,hb1⟩;replace hb1:=ah (af (aa _) 1) hb1;have r1:=ah r0 hb1;replace wa:=wa.belw hb1;replace wb:=wb.belw hb1)
   | (go_at_call 159;(with_reducible refine (fo _ b' A' n' c' l' ?_ ?_).mono ?_);(exact wb);(omega);rintro e w2 ⟨A2,n2,c2,rfl,h2,hb2⟩;have r2:=ah r1 hb2;replace wa:=wa.belw hb2;replace wb:=wb.belw hb2;replace h1:=h1.belw hb2)
   | (go_at_call 161;(with_reducible refine (rZ _ A1 n1 c1 (WD.m ⟨b,l⟩) ?_ ?_ A2 n2 c2 (WD.m ⟨b',l'⟩) ?_ ?_).mono ?_);(exact h1);(exact h1.m_len (by rw [← HL.out];exact hn));(exact h2);(exact h2.m_len (by rw [← HL'.out];exact hn'));rintro e w3 ⟨A3,n3,c3,rfl,h3,hb3⟩;have r3:=ah r2 hb3;replace wa:=wa.belw hb3;replace wb:=wb.belw hb3;replace h1:=h1.belw hb3;replace h2:=h2.belw hb3)
   | (go_at_call 129;(with_reducible refine (dw _ false A3 n3 c3 (am (Nat.gcd (val (WD.m ⟨b,l⟩)) (val (WD.m ⟨b',l'⟩)))) (Nat.gcd (val (WD.m ⟨b,l⟩)) (val (WD.m ⟨b',l'⟩)):Nat) ?_ ?_ ?_).mono ?_);(exact h3);(rw [h3.2.1];exact wS h1 h2 (Nat.le_trans (h1.m_len (by rw [← HL.out];exact hn)) (by decide)) (Nat.le_trans (h2.m_len (by rw [← HL'.out];exact hn')) (by decide)));(rw [ag];rfl);rintro e w4 ⟨A4,n4,c4,rfl,h4,hb4⟩;have r4:=ah r3 hb4;replace wa:=wa.belw hb4;replace wb:=wb.belw hb4;replace h1:=h1.belw hb4;replace h2:=h2.belw hb4;replace h3:=h3.belw hb4;obtain ⟨⟨sc,sf⟩,sr,sz⟩:=bj.of (by omega) hs0 hm0 r4))
 clear hRB;go_wp2_with fail;refine bodyPost_ret (v:=.agg #[.bool _,.slice A4 n4 c4]) (by simp [results,Tryz.results127,go_sem,sr];rfl) rfl ?_;have x:=x2.below r4;refine jB ?_ ?_ ?_
 ·rfl
 ·exact h4.keep (kp2 x (by decide) _ _ _ _)
 exact ((b0.trans (r4.mono b0.size)).setCell (by dsimp only;omega) _).setCell (by dsimp only;omega) _
theorem wU (w:World) (b A n c z k) (h:IZ w b A n c z k) (b' A' n' c' z' k') (h':IZ w b' A' n' c' z' k') (hk:k+k'≤1000000000):Calls Tryz.prog 127 #[.agg #[.bool b,.slice A n c],.agg #[.bool b',.slice A' n' c']] w (jE w (Nat.gcd z.natAbs z'.natAbs:Nat) (k+k')):=by
 have hz:=h.mono (Nat.le_add_right k k') |>.lt
 have hz':=h'.mono (Nat.le_add_left k' k) |>.lt
 obtain ⟨l,h1,rfl,h3⟩:=h;obtain ⟨l',h1',rfl,h3'⟩:=h';exact (wT w b A n c l h1 (by omega) b' A' n' c' l' h1' (by omega)).mono fun _ _ r=>r.i (by simpa using pH hz hz')
theorem Af (w:World)  :
 Calls Tryz.prog 88 #[] w (jE w 1 1):=by
 go_in;go_wp2_with fail;(with_reducible refine (qQ _ (1) ?_ ?_).mono ?_);(omega);(omega);rintro e w1 ⟨b1,A1,n1,c1,rfl,h1,hb1⟩;have q1:=hb1.q1;have x1a:Blk w1 w.heap.size 134 #[.bool false,.slice none 0 0]:=(ak _ _ _ (by simp)).below hb1 (by simp);have bw1:=(aa w).trans (q1.mono (aa w).size);have lw1:=hb1.l1;clear q1;have cx1a:=x1a.c2;have fx1a:=x1a.f2;have lx1a:=eG x1a.lt;go_wp2_with fail;refine bodyPost_ret (v:=.agg #[.bool b1,.slice A1 n1 c1]) (by simp [results,Tryz.results88,go_sem, *] <;> trivial) rfl ?_;exact ⟨b1,A1,n1,c1,rfl,h1.keep (((Kp.refl w1).sb w.heap.size 0 x1a.box (by decide) (.bool b1)).sb w.heap.size 1 (x1a.box.set ⟨w.heap.size,0,none⟩ (.bool b1)) (by decide) (.slice A1 n1 c1)),((bw1.sc w.heap.size 0 (by omega) (.bool b1)).sc w.heap.size 1 (by omega) (.slice A1 n1 c1))⟩

section
variable {w:World}{b:Bool}{A:Option Addr}{n c:Nat}{D:Option Addr}{m e:Nat}{a:RD}{k:Nat}
theorem Ag (h:a.ok=false∨a.num=[]):a.q.num=0∧(a.q.den:Int)=1:=by
 have e1:(a.ok && a.num != [])=false:=by rcases h with h | h <;> simp [h]
 have e2:a.q=0:=by unfold RD.q RD.n RD.d;rw [e1];simp
 rw [e2];exact ⟨rfl,rfl⟩
theorem Bq (hn:Wds a.num) (hd:Wds a.den) (ho:a.ok=true) (h0:a.num≠[]):a.num=(wh a.q.num).mag∧a.neg=(wh a.q.num).neg∧a.den=(wh (a.q.den:Int)).mag:=by
 have h1:=fH hn hd ho
 have h2:a.q.num≠0:=by
  intro e;have:(rd a.q).num=[]:=by unfold rd;simp [e,av]
  rw [h1] at this;exact h0 this
 have h3:(rd a.q).den=am a.q.den:=by unfold rd;simp [h2]
 refine ⟨?_,?_,?_⟩
 ·have:(rd a.q).num=am a.q.num.natAbs:=rfl
  rw [h1] at this;exact this
 ·have:(rd a.q).neg=decide (a.q.num < 0):=rfl
  rw [h1] at this;exact this
 rw [h1] at h3;exact h3
theorem uc (h:QD w b A n c D m e a k) (ho:a.ok=true) (h0:a.num≠[]):0 < m:=by
 rcases Nat.eq_zero_or_pos m with h1 | h1
 ·have e2:a.den=[]:=List.eq_nil_of_length_eq_zero (by rw [← h.2.2.1.2.1,h1])
  unfold RD.ok at ho;rw [if_neg (by intro x;exact h0 x.1)] at ho;simp [e2] at ho
 exact h1
end
abbrev bW (G g2 g3:Nat) (v0 v1:Value) (W0 W:World):Prop:=((∀ b o,b < G→b≠g2→b≠g3→W.cell? ⟨b,o,none⟩=W0.cell? ⟨b,o,none⟩)∧(∀ b o,b < G→W.frozen? ⟨b,o,none⟩=W0.frozen? ⟨b,o,none⟩))∧G≤W.heap.size∧W.cell? ⟨g2,0,none⟩=some v0∧W.cell? ⟨g2,1,none⟩=some v1
theorem bW.of {G g2 g3:Nat}{v0 v1:Value}{W0 W:World}(h:G≤W0.heap.size) (hb:Below W0.heap.size W0 W) (hg:g2 < W0.heap.size) (h0:W0.cell? ⟨g2,0,none⟩=some v0) (h1:W0.cell? ⟨g2,1,none⟩=some v1):bW G g2 g3 v0 v1 W0 W :=
 ⟨⟨fun b o hlt _ _=>(bS hb).1 b o (Nat.lt_of_lt_of_le hlt h),fun b o hlt=>(bS hb).2 b o (Nat.lt_of_lt_of_le hlt h)⟩,Nat.le_trans h hb.size,((bS hb).1 _ _ hg).trans h0,((bS hb).1 _ _ hg).trans h1⟩
theorem gX {w:World}{p:Addr}{u:Value}(v:Value) (h:w.cell? p=some u) (hp:p.spot=none):(w.setCell p v).cell? p=some v:=by
 obtain ⟨b,o,s⟩:=p;simp only at hp;subst hp;unfold World.cell? at h ⊢;simp only [World.setCell,Array.getElem?_modify,if_true] at h ⊢
 cases hh:w.heap[b]? with
 | none=>rw [hh] at h;simp at h
 | some ob =>
  rw [hh] at h;cases ob <;> simp_all;obtain ⟨hl,_⟩:=Array.getElem?_eq_some_iff.1 h;simp [hl]
theorem bW.set2 {G g2 g3:Nat}{v0 v1:Value}{W0 W:World}(h:bW G g2 g3 v0 v1 W0 W) {i:Nat}{u:Value}(hi:(i=0∧u=v0)∨(i=1∧u=v1)):bW G g2 g3 v0 v1 W0 (W.setCell ⟨g2,i,none⟩ u):=by
 refine ⟨⟨fun b o hlt hne h3=>?_,fun b o hlt=>?_⟩,?_,?_,?_⟩
 ·rw [← h.1.1 b o hlt hne h3];unfold World.cell?;rw [Below.heap_setCell _ _ _ b hne]
 ·rw [← h.1.2 b o hlt];exact World.frozen?_setCell ..
 ·have:=h.2.1;simp [World.setCell];exact this
 ·rcases hi with ⟨rfl,rfl⟩ | ⟨rfl,rfl⟩
  ·exact gX _ h.2.2.1 rfl
  rw [World.cell?_setCell_other _ _ _ _ (by simp)];exact h.2.2.1
 rcases hi with ⟨rfl,rfl⟩ | ⟨rfl,rfl⟩
 ·rw [World.cell?_setCell_other _ _ _ _ (by simp)];exact h.2.2.2
 exact gX _ h.2.2.2 rfl
theorem bW.set3 {G g2 g3:Nat}{v0 v1:Value}{W0 W:World}(h:bW G g2 g3 v0 v1 W0 W) {i:Nat}{u:Value}(hg:g2≠g3):bW G g2 g3 v0 v1 W0 (W.setCell ⟨g3,i,none⟩ u):=by
 refine ⟨⟨fun b o hlt hne h3=>?_,fun b o hlt=>?_⟩,?_,?_,?_⟩
 ·rw [← h.1.1 b o hlt hne h3];unfold World.cell?;rw [Below.heap_setCell _ _ _ b h3]
 ·rw [← h.1.2 b o hlt];exact World.frozen?_setCell ..
 ·have:=h.2.1;simp [World.setCell];exact this
 ·rw [World.cell?_setCell_other _ _ _ _ (by simp <;> omega)];exact h.2.2.1
 rw [World.cell?_setCell_other _ _ _ _ (by simp <;> omega)];exact h.2.2.2
theorem gi (w:World) (b:Bool) (A:Option Addr) (n c:Nat) (D:Option Addr) (m e:Nat) (a:RD) (k:Nat) (v:Bool) (h:QD w b A n c D m e a k) (hk:k≤300000000) (hv:a.ok=v) :
 Calls Tryz.prog 95 #[.agg #[.bool b,.slice A n c,.slice D m e]] w (aB w (.bool v)):=by subst hv;exact wL w b A n c D m e a k h hk
theorem B3.p2 {W w:World}{gs t0 t1 t2:Nat}{c0 c1:Array Value}{a0 a1:Value}(h:B3 W gs t0 c0 t1 c1 t2 #[a0,a1] w) (u0 u1:Value):B3 W gs t0 c0 t1 c1 t2 #[u0,u1] ((w.setCell ⟨gs+1+1,0,none⟩ u0).setCell ⟨gs+1+1,1,none⟩ u1) :=
 ⟨(h.s.far (p:=⟨gs+1+1,0,none⟩) (by show gs≠gs+1+1;omega) u0).far (p:=⟨gs+1+1,1,none⟩) (by show gs≠gs+1+1;omega) u1,(h.t.far (p:=⟨gs+1+1,0,none⟩) (by show gs+1≠gs+1+1;omega) u0).far (p:=⟨gs+1+1,1,none⟩) (by show gs+1≠gs+1+1;omega) u1,(h.r.set_ 0 u0).set_ 1 u1,(h.q.setCell (p:=⟨gs+1+1,0,none⟩) (by show gs≤gs+1+1;omega) u0).setCell (p:=⟨gs+1+1,1,none⟩) (by show gs≤gs+1+1;omega) u1⟩
theorem lS (w:World) (b A n c D m e a k) (h:QD w b A n c D m e a k) (h0:0 < k) (hk:k≤300000000) (ho:a.ok=false∨n=0):Calls Tryz.prog 82 #[.agg #[.bool b,.slice A n c,.slice D m e]] w (tQ w a.q.num a.q.den k):=by
 obtain ⟨v,hv⟩:∃ v,a.ok=v:=⟨_,rfl⟩;have hq:a.q.num=0∧(a.q.den:Int)=1:=Ag (ho.imp id fun hn=>List.eq_nil_of_length_eq_zero (by rw [← h.2.1.2.1,hn]));rw [hq.1,hq.2];have en:v=true→((n:Int) == 0)=true:=fun e=>by rcases ho with h | h;rw [h] at hv;rw [← hv] at e;cases e;simp [h]
 have HV:=Qh hv;have H:=Qh h;clear hq hv ho h;go_in;go_upto_region 1 with fail;refine jF ?_;intro w1 hw1;have k1:B3 w w.heap.size 54 #[.bool b,.slice A n c,.slice D m e] 134 #[.bool false,.slice none 0 0] 134 #[.bool false,.slice none 0 0] w1:=by rw [hw1];exact ⟨((Blk.new w _ _).alloc _).alloc _,(ak _ _ _ (by simp)).alloc _,ak _ _ _ (by simp),(((aa w).alloc Qr _).alloc (by simp) _).alloc (by simp <;> omega) _⟩
 clear hw1;have y:=k1.s.v3;go_wp2_with fail;(refine (gi _ b A n c D m e a k v (H.out.belw k1.q) hk HV.out).mono ?_);rintro e w2 ⟨rfl,hb2⟩;replace k1:=k1.call hb2;clear hb2 y;have y:=k1.s.v3;have key:∀ {P:Prop},(v=false→P)→(v=true→((n:Int) == 0)=true→P)→P:=fun h1 h2=>by cases v;exact h1 rfl;exact h2 rfl (en rfl)
 clear en;refine key (fun hv=>?_) (fun hv e1=>?_)
 all_goals
  subst hv;go_wp2_with fail;(refine (qN _).mono ?_);rintro e w3 ⟨b2,A2,n2,c2,rfl,h2,hb3⟩;replace k1:=k1.call hb3;clear hb3 y;have y:=And.intro k1.t.v2 k1.r.v2;go_wp2_with fail;refine bodyPost_ret (v:=.tuple #[.agg #[.bool false,.slice none 0 0],.agg #[.bool b2,.slice A2 n2 c2]]) (by simp [results,Tryz.results82,go_sem, *] <;> trivial) rfl ?_;have k2:=k1.p1 (.bool false) (.slice none 0 0);exact ⟨_,_,_,_,_,_,_,_,rfl,IV.zero _ _,(h2.keep ((k1.t.k2 (by decide) _ _).trans (k2.r.k2 (by decide) _ _))).mono (by omega),(k2.p2 _ _).q⟩
theorem sd (w:World) (b A n c D m e a k) (h:QD w b A n c D m e a k) (h0:0 < k) (hk:k≤300000000) (ho:a.ok=true) (hn:a.num≠[]) :
 Calls Tryz.prog 82 #[.agg #[.bool b,.slice A n c,.slice D m e]] w (tQ w a.q.num a.q.den k):=by
 have HK:=Qh hk;have HO:=Qh ho;obtain ⟨e1,e2,e3⟩:=Bq h.2.1.1 h.2.2.1.1 ho hn;have HE:=Qh (And.intro e1 (And.intro e2 e3));have hnp:0 < n:=by rcases Nat.eq_zero_or_pos n with h1 | h1;exact absurd (List.eq_nil_of_length_eq_zero (by rw [← h.2.1.2.1,h1])) hn;exact h1
 have hmp:0 < m:=uc h ho hn;have en:((n:Int) == 0)=false:=by simp;omega
 have hkn:n≤300000000:=Nat.le_trans h.2.2.2.1 hk;have hkm:m≤300000000:=Nat.le_trans h.2.2.2.2 hk;obtain ⟨i0,hi0,hz0,hz1,hz2⟩:=info_parts dP;obtain ⟨gA,oA,eA,hlA,_⟩:=h.2.1.at2 hnp;obtain ⟨gD,oD,eD,hlD,_⟩:=h.2.2.1.at2 hmp;subst eA eD;clear ho hn e1 e2 e3 hk;go_in;go_wp2_with fail;(with_reducible refine (gi _ b (some ⟨gA,oA,none⟩) n c (some ⟨gD,oD,none⟩) m e a k true ?_ ?_ ?_).mono ?_);(exact h.belw (((((Below.refl _ _).alloc Qr _).alloc (by simp) _).alloc (by simp <;> omega) _)));(exact HK.out);(exact HO.out);rintro e w1 ⟨rfl,hb1⟩;have q1:=hb1.q3;replace h:=h.belw q1;have x1a:Blk w1 w.heap.size 54 #[.bool b,.slice (some ⟨gA,oA,none⟩) n c,.slice (some ⟨gD,oD,none⟩) m e]:=(((ak _ _ _ (by simp)).alloc _).alloc _).below hb1 (by simp <;> omega);have x1b:=((ak _ _ _ (g:=w.heap.size+1) (by simp)).alloc _).below hb1 (by simp <;> omega);have x1c:=(ak _ _ _ (g:=w.heap.size+1+1) (by simp)).below hb1 (by simp);have bw1:=(aa w).trans (q1.mono (aa w).size);have lw1:=hb1.l3;clear q1;obtain ⟨cx1aa,cx1ab,cx1ac⟩:=x1a.c3;obtain ⟨lx1aa,lx1ab,lx1ac,lx1ad⟩:=eG x1a.lt;have cx1b:=x1b.c2;have fx1b:=x1b.f2;have lx1b:=ir x1b.lt;obtain ⟨cx1ca,cx1cb⟩:=x1c.c2;obtain ⟨fx1ca,fx1cb⟩:=x1c.f2;obtain ⟨lx1ca,lx1cb,lx1cc,lx1cd⟩:=tq x1c.lt;go_wp2_with fail;have howna:=World.ownsRow_lit (e:=173) (size:=1) w1 #[] 0 Qr (by simp [maxLen]) rfl;have hnewsa:=((h.2.1).keep ((Kp.refl w1).alloc (.cells #[] 173))).news (by omega) Qr;have hnla:(words (a.num.take n)).length=n * 1:=by rw [cD,List.length_take];have:=(h.2.1).2.1;omega
 have HOa:=Qh howna;have HNa:=Qh hnewsa;have HNLa:=Qh hnla;clear howna hnewsa hnla;have nf0:¬ w.heap.size=w.heap.size+1:=by omega
 have nf2:¬ w.heap.size+1+1=w.heap.size+1:=by omega
 have nfa:¬ w1.heap.size=w.heap.size+1:=by have:=x1b.lt;omega
 go_region_held3 (fun w'=>SeesX w1.heap.size (w.heap.size+1) w1 w') (first | exact SeesX.of Qr (af (aa _) 1) | exact SeesX.of Qr ((af (aa _) 1).alloc Qr _) | exact SeesX.of Qr (((aa _).alloc Qr _).drew) | exact SeesX.of Qr (by assumption) | exact SeesX.set (SeesX.of Qr (by assumption)) | exact SeesX.set (SeesX.set (SeesX.of Qr (by assumption)))) ((refine step_append_lies _ rfl _ _ _ rfl w1.heap.size 173 i0 (.int .u32 0) 1 4 Tryz.underlying52 hi0 hz0 hz1 hz2 rfl (by omega) _ 0 [] rfl (by first | exact HOa.out | exact HOa.out.drew) ⟨gA,oA,none⟩ n c (words (a.num.take n)) rfl HNLa.out HNa.out (eT _) (by omega) (by unfold maxLen;omega) (by omega) (by simp) (w1.heap.size+1) (by simp) ?_;intro ga capa va howna hgrowa hata hlta;have qa:Below w1.heap.size w1 va:=(((Below.refl _ _).alloc Qr _).drew).grown hgrowa (by simp) (fun b hb=>Nat.le_of_eq (Option.some.inj hb));have y1:Blk va (w.heap.size+1) 134 #[.bool false,.slice none 0 0]:=x1b.below qa x1b.lt;obtain ⟨cy10,cy11⟩:=y1.c2;obtain ⟨fy10,fy11⟩:=y1.f2));simp only [Nat.zero_add,List.nil_append] at howna
 have hwa:Wd va (some ⟨ga,0,none⟩) n capa a.num:=by
  have x:=Wd.of_own howna (Wds.take (h.2.1).1 n);rwa [List.take_of_length_le (Nat.le_of_eq (h.2.1).2.1.symm)] at x
 clear howna hgrowa hata HOa HNa HNLa;clear cx1aa cx1ab cx1ac lx1aa lx1ab lx1ac lx1ad cx1b fx1b lx1b cx1ca fx1ca cx1cb fx1cb lx1ca lx1cb lx1cc lx1cd;clear cy10 cy11 fy10 fy11 nfa nf0 nf2;replace x1a:=x1a.b qa;replace x1c:=x1c.b qa;replace h:=h.belw qa;have bwa:Below w.heap.size w va:=bw1.trans (qa.mono bw1.size);have lwa:w1.heap.size≤va.heap.size:=qa.size;clear x1b;go_wp2_with fail;have p5:=(((Kp.refl va).sb (w.heap.size+1) 0 y1.box (by decide) (.bool b)).sb (w.heap.size+1) 1 (y1.box.set ⟨w.heap.size+1,0,none⟩ (.bool b)) (by decide) (.slice (some ⟨ga,0,none⟩) n capa));have bw5:=((bwa.sc (w.heap.size+1) 0 (by omega) (.bool b)).sc (w.heap.size+1) 1 (by omega) (.slice (some ⟨ga,0,none⟩) n capa));replace x1a:=((x1a.fr (w.heap.size+1) 0 (by omega) (.bool b)).fr (w.heap.size+1) 1 (by omega) (.slice (some ⟨ga,0,none⟩) n capa));replace y1:Blk ((va.setCell ⟨w.heap.size+1,0,none⟩ (.bool b)).setCell ⟨w.heap.size+1,1,none⟩ (.slice (some ⟨ga,0,none⟩) n capa)) (w.heap.size+1) 134 #[.bool b,.slice (some ⟨ga,0,none⟩) n capa]:=((y1.set_at 0 (.bool b) #[.bool b,.slice none 0 0] (by simp)).set_at 1 (.slice (some ⟨ga,0,none⟩) n capa) #[.bool b,.slice (some ⟨ga,0,none⟩) n capa] (by simp));replace x1c:=((x1c.fr (w.heap.size+1) 0 (by omega) (.bool b)).fr (w.heap.size+1) 1 (by omega) (.slice (some ⟨ga,0,none⟩) n capa));have lw5:va.heap.size+0≤((va.setCell ⟨w.heap.size+1,0,none⟩ (.bool b)).setCell ⟨w.heap.size+1,1,none⟩ (.slice (some ⟨ga,0,none⟩) n capa)).heap.size:=by simp
 generalize hE5:((va.setCell ⟨w.heap.size+1,0,none⟩ (.bool b)).setCell ⟨w.heap.size+1,1,none⟩ (.slice (some ⟨ga,0,none⟩) n capa))=w5 at p5 bw5 lw5 x1a y1 x1c ⊢;clear hE5;replace h:=h.keep p5;replace hwa:=hwa.keep p5;obtain ⟨cx1aa,cx1ab,cx1ac⟩:=x1a.c3;obtain ⟨lx1aa,lx1ab,lx1ac,lx1ad⟩:=eG x1a.lt;obtain ⟨cy1_0,cy1_1⟩:=y1.c2;have fy1:=y1.f2;have ly1:=ir y1.lt;obtain ⟨cx1ca,cx1cb⟩:=x1c.c2;obtain ⟨fx1ca,fx1cb⟩:=x1c.f2;obtain ⟨lx1ca,lx1cb,lx1cc,lx1cd⟩:=tq x1c.lt;have hownd:=World.ownsRow_lit (e:=173) (size:=1) w5 #[] 0 Qr (by simp [maxLen]) rfl;have hnewsd:=((h.2.2.1).keep ((Kp.refl w5).alloc (.cells #[] 173))).news (by omega) Qr;have hnld:(words (a.den.take m)).length=m * 1:=by rw [cD,List.length_take];have:=(h.2.2.1).2.1;omega
 have HOd:=Qh hownd;have HNd:=Qh hnewsd;have HNLd:=Qh hnld;clear hownd hnewsd hnld;have nf0:¬ w.heap.size=w.heap.size+1:=by omega
 have nf1:¬ w.heap.size=w.heap.size+2:=by omega
 have nf2:¬ w.heap.size+1=w.heap.size+1+1:=by omega
 have nf3:¬ w.heap.size=w.heap.size+1:=by omega
 clear nf3;go_region_held3 (fun w'=>bW w5.heap.size (w.heap.size+1) (w.heap.size+1+1) (.bool b) (.slice (some ⟨ga,0,none⟩) n capa) w5 w') (first | with_reducible exact bW.of Qr ((aa _).drew) y1.lt cy1_0 cy1_1 | with_reducible exact bW.of Qr (((aa _).alloc Qr _).drew) y1.lt cy1_0 cy1_1 | with_reducible exact bW.of Qr (by assumption) y1.lt cy1_0 cy1_1 | with_reducible exact (bW.set2 (bW.of Qr (by assumption) y1.lt cy1_0 cy1_1) (.inl ⟨rfl,rfl⟩)) | with_reducible exact (bW.set2 (bW.set2 (bW.of Qr (by assumption) y1.lt cy1_0 cy1_1) (.inl ⟨rfl,rfl⟩)) (.inr ⟨rfl,rfl⟩)) | with_reducible exact (bW.set3 (bW.set2 (bW.set2 (bW.of Qr (by assumption) y1.lt cy1_0 cy1_1) (.inl ⟨rfl,rfl⟩)) (.inr ⟨rfl,rfl⟩)) (by omega)) | with_reducible exact (bW.set3 (bW.set3 (bW.set2 (bW.set2 (bW.of Qr (by assumption) y1.lt cy1_0 cy1_1) (.inl ⟨rfl,rfl⟩)) (.inr ⟨rfl,rfl⟩)) (by omega)) (by omega))) ((refine step_append_lies _ rfl _ _ _ rfl w5.heap.size 173 i0 (.int .u32 0) 1 4 Tryz.underlying52 hi0 hz0 hz1 hz2 rfl (by omega) _ 0 [] rfl (by first | exact HOd.out | exact HOd.out.drew) ⟨gD,oD,none⟩ m e (words (a.den.take m)) rfl HNLd.out HNd.out (eT _) (by omega) (by unfold maxLen;omega) (by omega) (by simp) (w5.heap.size+1) (by simp) ?_;intro gd capd vd hownd hgrowd hatd hltd;have qd:Below w5.heap.size w5 vd:=(((Below.refl _ _).alloc Qr _).drew).grown hgrowd (by simp) (fun b hb=>Nat.le_of_eq (Option.some.inj hb));have z1:Blk vd (w.heap.size+1) 134 #[.bool b,.slice (some ⟨ga,0,none⟩) n capa]:=y1.below qd y1.lt;obtain ⟨cz10,cz11⟩:=z1.c2;obtain ⟨fz10,fz11⟩:=z1.f2;have z2:Blk vd (w.heap.size+1+1) 134 #[.bool false,.slice none 0 0]:=x1c.below qd x1c.lt;obtain ⟨cz20,cz21⟩:=z2.c2;obtain ⟨fz20,fz21⟩:=z2.f2));simp only [Nat.zero_add,List.nil_append] at hownd
 have hwd:Wd vd (some ⟨gd,0,none⟩) m capd a.den:=by
  have x:=Wd.of_own hownd (Wds.take (h.2.2.1).1 m);rwa [List.take_of_length_le (Nat.le_of_eq (h.2.2.1).2.1.symm)] at x
 clear hownd hgrowd hatd HOd HNd HNLd;clear cx1aa cx1ab cx1ac lx1aa lx1ab lx1ac lx1ad cy1_0 fy1 cy1_1 ly1 cx1ca fx1ca cx1cb fx1cb lx1ca lx1cb lx1cc lx1cd;replace x1a:=x1a.b qd;replace hwa:=hwa.belw qd;have bwd:Below w.heap.size w vd:=bw5.trans (qd.mono bw5.size);have lwd:w5.heap.size≤vd.heap.size:=qd.size;go_wp2_with fail;refine bodyPost_ret (v:=.tuple #[.agg #[.bool b,.slice (some ⟨ga,0,none⟩) n capa],.agg #[.bool false,.slice (some ⟨gd,0,none⟩) m capd]]) (by simp [results,Tryz.results82,go_sem, *] <;> trivial) rfl ?_;have kp:=(((((Kp.refl vd).sb (w.heap.size+1) 0 z1.box (by decide) (.bool b)).sb (w.heap.size+1) 1 (z1.box.set ⟨w.heap.size+1,0,none⟩ (.bool b)) (by decide) (.slice (some ⟨ga,0,none⟩) n capa)).sb (w.heap.size+1+1) 0 ((z2.box.set ⟨w.heap.size+1,0,none⟩ (.bool b)).set ⟨w.heap.size+1,1,none⟩ (.slice (some ⟨ga,0,none⟩) n capa)) (by decide) (.bool false)).sb (w.heap.size+1+1) 1 (((z2.box.set ⟨w.heap.size+1,0,none⟩ (.bool b)).set ⟨w.heap.size+1,1,none⟩ (.slice (some ⟨ga,0,none⟩) n capa)).set ⟨w.heap.size+1+1,0,none⟩ (.bool false)) (by decide) (.slice (some ⟨gd,0,none⟩) m capd));exact ⟨b,some ⟨ga,0,none⟩,n,capa,false,some ⟨gd,0,none⟩,m,capd,rfl,⟨h.1.symm.trans HE.out.2.1,HE.out.1 ▸ hwa.keep kp,h.2.2.2.1⟩,⟨by simp [wh],HE.out.2.2 ▸ hwd.keep kp,h.2.2.2.2⟩,((((bwd.sc (w.heap.size+1) 0 (by omega) (.bool b)).sc (w.heap.size+1) 1 (by omega) (.slice (some ⟨ga,0,none⟩) n capa)).sc (w.heap.size+1+1) 0 (by omega) (.bool false)).sc (w.heap.size+1+1) 1 (by omega) (.slice (some ⟨gd,0,none⟩) m capd))⟩
theorem gn (w:World) (b A n c D m e q k) (h:QZ w b A n c D m e q k) (h0:0 < k) (hk:k≤300000000) :
 Calls Tryz.prog 82 #[.agg #[.bool b,.slice A n c,.slice D m e]] w (tQ w q.num q.den k):=by
 obtain ⟨a,h,rfl⟩:=h;cases ho:a.ok
 ·exact lS w b A n c D m e a k h h0 hk (.inl ho)
 by_cases hn:n=0
 ·exact lS w b A n c D m e a k h h0 hk (.inr hn)
 exact sd w b A n c D m e a k h h0 hk ho (h.num_ne (by omega))
theorem Ah (w:World) (b A n c D m e q k) (h:QZ w b A n c D m e q k) (b' A' n' c' D' m' e' q' k') (h':QZ w b' A' n' c' D' m' e' q' k') (h0:0 < k) (hk:k≤40000000) (h0':0 < k') (hk':k'≤40000000) :
 Calls Tryz.prog 60 #[.agg #[.bool b,.slice A n c,.slice D m e],.agg #[.bool b',.slice A' n' c',.slice D' m' e']] w (wH w (q+q') (k+k'+1)):=by
 have HS:=Qh (h.sz h0);have HS':=Qh (h'.sz h0');go_in;go_wp2_with fail;(with_reducible refine (gn _ b A n c D m e (q) (k) ?_ ?_ ?_).mono ?_);(exact (h.belw ((((Below.refl _ _).alloc Qr _).alloc (by simp) _).alloc (by simp <;> omega) _)));(omega);(omega);rintro e w1 ⟨b1,A1,n1,c1,b'1,A'1,n'1,c'1,rfl,h1,h'1,hb1⟩;have q1:=hb1.q3;replace h:=h.belw q1;replace h':=h'.belw q1;have x1a:Blk w1 w.heap.size 54 #[.bool b,.slice A n c,.slice D m e]:=(((ak _ _ _ (by simp)).alloc _).alloc _).below hb1 (by simp <;> omega);have x1b:=((ak _ _ _ (g:=w.heap.size+1) (by simp)).alloc _).below hb1 (by simp <;> omega);have x1c:=(ak _ _ _ (g:=w.heap.size+1+1) (by simp)).below hb1 (by simp);have bw1:=(aa w).trans (q1.mono (aa w).size);have lw1:=hb1.l3;clear q1;have cx1b:=x1b.c3;obtain ⟨lx1ba,lx1bb,lx1bc,lx1bd⟩:=ir x1b.lt;go_wp2_with fail;(with_reducible refine (gn _ b' A' n' c' D' m' e' (q') (k') ?_ ?_ ?_).mono ?_);(exact (h'.belw (((Below.refl _ _).alloc Qr _).alloc (by simp) _)));(omega);(omega);rintro e w2 ⟨b2,A2,n2,c2,b'2,A'2,n'2,c'2,rfl,h2,h'2,hb2⟩;clear cx1b lx1ba lx1bb lx1bc lx1bd;have q2:=hb2.q2;replace h:=h.belw q2;replace h':=h'.belw q2;replace h1:=h1.belw q2;replace h'1:=h'1.belw q2;replace x1a:=x1a.b q2;replace x1b:=x1b.b q2;replace x1c:=x1c.b q2;have x2a:Blk w2 w1.heap.size 134 #[.bool b1,.slice A1 n1 c1]:=((ak _ _ _ (by simp)).alloc _).below hb2 (by simp <;> omega);have x2b:=(ak _ _ _ (g:=w1.heap.size+1) (by simp)).below hb2 (by simp);have bw2:=bw1.trans (q2.mono bw1.size);have lw2:=hb2.l2;clear q2 bw1;go_wp2_with fail;have p3:=(((Kp.refl w2).alloc (.cells #[.bool b2,.slice A2 n2 c2] 134)).alloc (.cells #[.bool b'2,.slice A'2 n'2 c'2] 134));have bw3:=((bw2.alloc (by first | omega | (simp <;> omega)) (.cells #[.bool b2,.slice A2 n2 c2] 134)).alloc (by first | omega | (simp <;> omega)) (.cells #[.bool b'2,.slice A'2 n'2 c'2] 134));have x3a:Blk ((w2.alloc (.cells #[.bool b2,.slice A2 n2 c2] 134)).alloc (.cells #[.bool b'2,.slice A'2 n'2 c'2] 134)) w2.heap.size 134 #[.bool b2,.slice A2 n2 c2]:=((ak _ _ _ (by simp)).alloc (.cells #[.bool b'2,.slice A'2 n'2 c'2] 134));have x3b:Blk ((w2.alloc (.cells #[.bool b2,.slice A2 n2 c2] 134)).alloc (.cells #[.bool b'2,.slice A'2 n'2 c'2] 134)) (w2.heap.size+1) 134 #[.bool b'2,.slice A'2 n'2 c'2]:=(ak _ _ _ (by simp));replace x1a:=((x1a.alloc (.cells #[.bool b2,.slice A2 n2 c2] 134)).alloc (.cells #[.bool b'2,.slice A'2 n'2 c'2] 134));replace x1b:=((x1b.alloc (.cells #[.bool b2,.slice A2 n2 c2] 134)).alloc (.cells #[.bool b'2,.slice A'2 n'2 c'2] 134));replace x1c:=((x1c.alloc (.cells #[.bool b2,.slice A2 n2 c2] 134)).alloc (.cells #[.bool b'2,.slice A'2 n'2 c'2] 134));replace x2a:=((x2a.alloc (.cells #[.bool b2,.slice A2 n2 c2] 134)).alloc (.cells #[.bool b'2,.slice A'2 n'2 c'2] 134));replace x2b:=((x2b.alloc (.cells #[.bool b2,.slice A2 n2 c2] 134)).alloc (.cells #[.bool b'2,.slice A'2 n'2 c'2] 134));have lw3:w2.heap.size+2≤((w2.alloc (.cells #[.bool b2,.slice A2 n2 c2] 134)).alloc (.cells #[.bool b'2,.slice A'2 n'2 c'2] 134)).heap.size:=by simp
 generalize hE3:((w2.alloc (.cells #[.bool b2,.slice A2 n2 c2] 134)).alloc (.cells #[.bool b'2,.slice A'2 n'2 c'2] 134))=w3 at p3 bw3 lw3 x3a x3b x1a x1b x1c x2a x2b ⊢;clear hE3;replace h:=h.keep p3;replace h':=h'.keep p3;replace h1:=h1.keep p3;replace h'1:=h'1.keep p3;replace h2:=h2.keep p3;replace h'2:=h'2.keep p3;clear bw2;have lx1a:=eG x1a.lt;obtain ⟨lx1ba,lx1bb,lx1bc,lx1bd⟩:=ir x1b.lt;have cx1ca:w3.cell? ⟨w.heap.size+1+1,0,none⟩=some (.bool false):=x1c.cell 0;have fx1ca:w3.frozen? ⟨w.heap.size+1+1,0,none⟩=false:=x1c.frozen 0;have cx1cb:w3.cell? ⟨w.heap.size+1+1,1,none⟩=some (.slice none 0 0):=x1c.cell 1;have fx1cb:w3.frozen? ⟨w.heap.size+1+1,1,none⟩=false:=x1c.frozen 1;have cx1cc:w3.cell? ⟨w.heap.size+1+1,2,none⟩=some (.slice none 0 0):=x1c.cell 2;have fx1cc:w3.frozen? ⟨w.heap.size+1+1,2,none⟩=false:=x1c.frozen 2;have lx1c:=tq x1c.lt;have cx2a:=x2a.c2;have lx2a:=eG x2a.lt;have cx2b:=x2b.c2;have lx2b:=ir x2b.lt;have cx3a:=x3a.c2;have lx3a:=eG x3a.lt;have cx3b:=x3b.c2;have lx3b:=ir x3b.lt;have nfx1_0:¬ w.heap.size=w.heap.size+1+1:=by omega
 have nex1_0:¬ w.heap.size=w.heap.size+2:=by omega
 have nfx1_1:¬ w.heap.size+1=w.heap.size+1+1:=by omega
 have nex1_1:¬ w.heap.size=w.heap.size+1:=by omega
 have nfx2_0:¬ w1.heap.size=w.heap.size+1+1:=by omega
 have nex2_0:¬ w1.heap.size=w.heap.size+2:=by omega
 have nfx2_1:¬ w1.heap.size+1=w.heap.size+1+1:=by omega
 have nex2_1:¬ w1.heap.size=w.heap.size+1:=by omega
 have nfx3_0:¬ w2.heap.size=w.heap.size+1+1:=by omega
 have nex3_0:¬ w2.heap.size=w.heap.size+2:=by omega
 have nfx3_1:¬ w2.heap.size+1=w.heap.size+1+1:=by omega
 have nex3_1:¬ w2.heap.size=w.heap.size+1:=by omega
 go_region_held3 (fun w'=>SeesX w3.heap.size (w.heap.size+1+1) w3 w') (first | with_reducible exact SeesX.of Qr (by assumption) | with_reducible exact SeesX.of Qr (aa _).drew | with_reducible exact (SeesX.set (SeesX.set (SeesX.set (SeesX.of Qr (by assumption))))) | with_reducible exact (SeesX.set (SeesX.set (SeesX.of Qr (by assumption)))) | with_reducible exact (SeesX.set (SeesX.of Qr (by assumption))) | exact SeesX.of Qr (af (aa _) 1) | exact SeesX.of Qr (af (by assumption) _))
  (first
   | (go_at_call 100;(with_reducible refine (nO _ b1 A1 n1 c1 ((q).num) ((k)) ?_ b'2 A'2 n'2 c'2 (((q').den:Int)) ((k')) ?_ ?_).mono ?_);(exact h1.iz);(exact h'2.iz);(omega);rintro e w4 ⟨b4,A4,n4,c4,rfl,h4,hb4⟩;replace hb4:=ah (af (aa _) 1) hb4;have q4:Below w3.heap.size w3 w4:=ah (aa w3) hb4;replace h:=h.belw hb4;replace h':=h'.belw hb4;replace h1:=h1.belw hb4;replace h'1:=h'1.belw hb4;replace h2:=h2.belw hb4;replace h'2:=h'2.belw hb4)
   | (go_at_call 100;(with_reducible refine (nO _ b2 A2 n2 c2 ((q').num) ((k')) ?_ b'1 A'1 n'1 c'1 (((q).den:Int)) ((k)) ?_ ?_).mono ?_);(exact h2.iz);(exact h'1.iz);(omega);rintro e w5 ⟨b5,A5,n5,c5,rfl,h5,hb5⟩;have q5:Below w3.heap.size w3 w5:=ah q4 hb5;replace h:=h.belw hb5;replace h':=h'.belw hb5;replace h1:=h1.belw hb5;replace h'1:=h'1.belw hb5;replace h2:=h2.belw hb5;replace h'2:=h'2.belw hb5;replace h4:=h4.belw hb5)
   | (go_at_call 99;(with_reducible refine (zV _ b4 A4 n4 c4 (((q).num) * (((q').den:Int))) (((k))+((k'))) ?_ b5 A5 n5 c5 (((q').num) * (((q).den:Int))) (((k'))+((k))) ?_ ?_).mono ?_);(exact h4.iz);(exact h5.iz);(omega);rintro e w6 ⟨b6,A6,n6,c6,rfl,h6,hb6⟩;have q6:Below w3.heap.size w3 w6:=ah q5 hb6;replace h:=h.belw hb6;replace h':=h'.belw hb6;replace h1:=h1.belw hb6;replace h'1:=h'1.belw hb6;replace h2:=h2.belw hb6;replace h'2:=h'2.belw hb6;replace h4:=h4.belw hb6;replace h5:=h5.belw hb6)
   | (go_at_call 100;(with_reducible refine (nO _ b'1 A'1 n'1 c'1 (((q).den:Int)) ((k)) ?_ b'2 A'2 n'2 c'2 (((q').den:Int)) ((k')) ?_ ?_).mono ?_);(exact h'1.iz);(exact h'2.iz);(omega);rintro e w7 ⟨b7,A7,n7,c7,rfl,h7,hb7⟩;have q7:Below w3.heap.size w3 w7:=ah q6 hb7;replace h:=h.belw hb7;replace h':=h'.belw hb7;replace h1:=h1.belw hb7;replace h'1:=h'1.belw hb7;replace h2:=h2.belw hb7;replace h'2:=h'2.belw hb7;replace h4:=h4.belw hb7;replace h5:=h5.belw hb7;replace h6:=h6.belw hb7)
   | (go_at_call 98;(with_reducible refine (tV _ b6 A6 n6 c6 ((((q).num) * (((q').den:Int)))+(((q').num) * (((q).den:Int)))) ((((k))+((k')))+(((k'))+((k)))+1) ?_ b7 A7 n7 c7 ((((q).den:Int)) * (((q').den:Int))) (((k))+((k'))) ?_ (q+q') (k+k'+1) ?_ ?_ ?_ ?_).mono ?_);(exact h6.iz);(exact h7.iz);(exact Int.mul_ne_zero (jz _) (jz _));(exact (xQ _ _).symm);(exact yj HS.out HS'.out);(omega);rintro e w8 ⟨b8,A8,n8,c8,A'8,n'8,c'8,rfl,h8,hb8⟩;have q8:Below w3.heap.size w3 w8:=ah q7 hb8;replace h:=h.belw hb8;replace h':=h'.belw hb8;replace h1:=h1.belw hb8;replace h'1:=h'1.belw hb8;replace h2:=h2.belw hb8;replace h'2:=h'2.belw hb8;replace h4:=h4.belw hb8;replace h5:=h5.belw hb8;replace h6:=h6.belw hb8;replace h7:=h7.belw hb8;have x1c:=x1c.b q8;obtain ⟨cx1ca,cx1cb,cx1cc⟩:=x1c.c3;obtain ⟨fx1ca,fx1cb,fx1cc⟩:=x1c.f3))
 have bw8:=bw3.trans (q8.mono bw3.size);clear lx1a lx1ba lx1bb lx1bc lx1bd cx1ca fx1ca cx1cb fx1cb cx1cc fx1cc lx1c cx2a lx2a cx2b lx2b cx3a lx3a cx3b lx3b;replace x1a:=x1a.b q8;replace x1b:=x1b.b q8;replace x2a:=x2a.b q8;replace x2b:=x2b.b q8;replace x3a:=x3a.b q8;replace x3b:=x3b.b q8;have lw8:=q8.size;obtain ⟨cx1ca,cx1cb,cx1cc⟩:=x1c.c3;obtain ⟨fx1ca,fx1cb,fx1cc⟩:=x1c.f3;go_wp2_with fail;refine bodyPost_ret (v:=.agg #[.bool b8,.slice A8 n8 c8,.slice A'8 n'8 c'8]) (by simp [results,Tryz.results60,go_sem, *] <;> trivial) rfl ?_;exact ⟨b8,A8,n8,c8,A'8,n'8,c'8,rfl,h8.keep ((((Kp.refl w8).sb (w.heap.size+1+1) 0 x1c.box (by decide) (.bool b8)).sb (w.heap.size+1+1) 1 (x1c.box.set ⟨w.heap.size+1+1,0,none⟩ (.bool b8)) (by decide) (.slice A8 n8 c8)).sb (w.heap.size+1+1) 2 ((x1c.box.set ⟨w.heap.size+1+1,0,none⟩ (.bool b8)).set ⟨w.heap.size+1+1,1,none⟩ (.slice A8 n8 c8)) (by decide) (.slice A'8 n'8 c'8)),(((bw8.sc (w.heap.size+1+1) 0 (by omega) (.bool b8)).sc (w.heap.size+1+1) 1 (by omega) (.slice A8 n8 c8)).sc (w.heap.size+1+1) 2 (by omega) (.slice A'8 n'8 c'8))⟩
theorem Ai (w:World) (b A n c D m e q k) (h:QZ w b A n c D m e q k) (b' A' n' c' D' m' e' q' k') (h':QZ w b' A' n' c' D' m' e' q' k') (h0:0 < k) (hk:k≤40000000) (h0':0 < k') (hk':k'≤40000000) :
 Calls Tryz.prog 138 #[.agg #[.bool b,.slice A n c,.slice D m e],.agg #[.bool b',.slice A' n' c',.slice D' m' e']] w (aB w (.int .i64 (eI (q.num * q'.den) (q'.num * q.den)))):=by
 go_in;go_wp2_with fail;(with_reducible refine (gn _ b A n c D m e (q) (k) ?_ ?_ ?_).mono ?_);(exact (h.belw (((Below.refl _ _).alloc Qr _).alloc (by simp) _)));(omega);(omega);rintro e w1 ⟨b1,A1,n1,c1,b'1,A'1,n'1,c'1,rfl,h1,h'1,hb1⟩;have q1:=hb1.q2;replace h:=h.belw q1;replace h':=h'.belw q1;have x1a:Blk w1 w.heap.size 54 #[.bool b,.slice A n c,.slice D m e]:=((ak _ _ _ (by simp)).alloc _).below hb1 (by simp <;> omega);have x1b:=(ak _ _ _ (g:=w.heap.size+1) (by simp)).below hb1 (by simp);have bw1:=(aa w).trans (q1.mono (aa w).size);have lw1:=hb1.l2;clear q1;have cx1b:=x1b.c3;obtain ⟨lx1ba,lx1bb,lx1bc,lx1bd⟩:=ir x1b.lt;go_wp2_with fail;(with_reducible refine (gn _ b' A' n' c' D' m' e' (q') (k') ?_ ?_ ?_).mono ?_);(exact (h'.belw (((Below.refl _ _).alloc Qr _).alloc (by simp) _)));(omega);(omega);rintro e w2 ⟨b2,A2,n2,c2,b'2,A'2,n'2,c'2,rfl,h2,h'2,hb2⟩;clear cx1b lx1ba lx1bb lx1bc lx1bd;have q2:=hb2.q2;replace h:=h.belw q2;replace h':=h'.belw q2;replace h1:=h1.belw q2;replace h'1:=h'1.belw q2;replace x1a:=x1a.b q2;replace x1b:=x1b.b q2;have x2a:Blk w2 w1.heap.size 134 #[.bool b1,.slice A1 n1 c1]:=((ak _ _ _ (by simp)).alloc _).below hb2 (by simp <;> omega);have x2b:=(ak _ _ _ (g:=w1.heap.size+1) (by simp)).below hb2 (by simp);have bw2:=bw1.trans (q2.mono bw1.size);have lw2:=hb2.l2;clear q2 bw1;go_wp2_with fail;have p3:=(((Kp.refl w2).alloc (.cells #[.bool b2,.slice A2 n2 c2] 134)).alloc (.cells #[.bool b'2,.slice A'2 n'2 c'2] 134));have bw3:=((bw2.alloc (by first | omega | (simp <;> omega)) (.cells #[.bool b2,.slice A2 n2 c2] 134)).alloc (by first | omega | (simp <;> omega)) (.cells #[.bool b'2,.slice A'2 n'2 c'2] 134));have x3a:Blk ((w2.alloc (.cells #[.bool b2,.slice A2 n2 c2] 134)).alloc (.cells #[.bool b'2,.slice A'2 n'2 c'2] 134)) w2.heap.size 134 #[.bool b2,.slice A2 n2 c2]:=((ak _ _ _ (by simp)).alloc (.cells #[.bool b'2,.slice A'2 n'2 c'2] 134));have x3b:Blk ((w2.alloc (.cells #[.bool b2,.slice A2 n2 c2] 134)).alloc (.cells #[.bool b'2,.slice A'2 n'2 c'2] 134)) (w2.heap.size+1) 134 #[.bool b'2,.slice A'2 n'2 c'2]:=(ak _ _ _ (by simp));replace x1a:=((x1a.alloc (.cells #[.bool b2,.slice A2 n2 c2] 134)).alloc (.cells #[.bool b'2,.slice A'2 n'2 c'2] 134));replace x1b:=((x1b.alloc (.cells #[.bool b2,.slice A2 n2 c2] 134)).alloc (.cells #[.bool b'2,.slice A'2 n'2 c'2] 134));replace x2a:=((x2a.alloc (.cells #[.bool b2,.slice A2 n2 c2] 134)).alloc (.cells #[.bool b'2,.slice A'2 n'2 c'2] 134));replace x2b:=((x2b.alloc (.cells #[.bool b2,.slice A2 n2 c2] 134)).alloc (.cells #[.bool b'2,.slice A'2 n'2 c'2] 134));have lw3:w2.heap.size+2≤((w2.alloc (.cells #[.bool b2,.slice A2 n2 c2] 134)).alloc (.cells #[.bool b'2,.slice A'2 n'2 c'2] 134)).heap.size:=by simp
 generalize hE3:((w2.alloc (.cells #[.bool b2,.slice A2 n2 c2] 134)).alloc (.cells #[.bool b'2,.slice A'2 n'2 c'2] 134))=w3 at p3 bw3 lw3 x3a x3b x1a x1b x2a x2b ⊢;clear hE3;replace h:=h.keep p3;replace h':=h'.keep p3;replace h1:=h1.keep p3;replace h'1:=h'1.keep p3;replace h2:=h2.keep p3;replace h'2:=h'2.keep p3;clear bw2;have lx1a:=eG x1a.lt;obtain ⟨lx1ba,lx1bb,lx1bc,lx1bd⟩:=ir x1b.lt;have cx2a:=x2a.c2;have lx2a:=eG x2a.lt;have cx2b:=x2b.c2;have lx2b:=ir x2b.lt;have cx3a:=x3a.c2;have lx3a:=eG x3a.lt;have cx3b:=x3b.c2;have lx3b:=ir x3b.lt
 go_region_held3 (fun w'=>Sees w3.heap.size w3 w') (first | with_reducible exact Sees.of Qr (by assumption) | with_reducible exact Sees.of Qr (aa _).drew | exact Sees.of Qr (af (aa _) 1) | exact Sees.of Qr (af (by assumption) _))
  (first
   | (go_at_call 100;(with_reducible refine (nO _ b1 A1 n1 c1 ((q).num) ((k)) ?_ b'2 A'2 n'2 c'2 (((q').den:Int)) ((k')) ?_ ?_).mono ?_);(exact h1.iz);(exact h'2.iz);(omega);rintro e w4 ⟨b4,A4,n4,c4,rfl,h4,hb4⟩;replace hb4:=ah (af (aa _) 1) hb4;have q4:Below w3.heap.size w3 w4:=ah (aa w3) hb4;replace h:=h.belw hb4;replace h':=h'.belw hb4;replace h1:=h1.belw hb4;replace h'1:=h'1.belw hb4;replace h2:=h2.belw hb4;replace h'2:=h'2.belw hb4)
   | (go_at_call 100;(with_reducible refine (nO _ b2 A2 n2 c2 ((q').num) ((k')) ?_ b'1 A'1 n'1 c'1 (((q).den:Int)) ((k)) ?_ ?_).mono ?_);(exact h2.iz);(exact h'1.iz);(omega);rintro e w5 ⟨b5,A5,n5,c5,rfl,h5,hb5⟩;have q5:Below w3.heap.size w3 w5:=ah q4 hb5;replace h:=h.belw hb5;replace h':=h'.belw hb5;replace h1:=h1.belw hb5;replace h'1:=h'1.belw hb5;replace h2:=h2.belw hb5;replace h'2:=h'2.belw hb5;replace h4:=h4.belw hb5)
   | (go_at_call 83;(with_reducible refine (tR _ b4 A4 n4 c4 (((q).num) * (((q').den:Int))) (((k))+((k'))) ?_ b5 A5 n5 c5 (((q').num) * (((q).den:Int))) (((k'))+((k))) ?_ ?_).mono ?_);(exact h4.iz);(exact h5.iz);(omega);rintro e w6 ⟨rfl,hb6⟩;have q6:Below w3.heap.size w3 w6:=ah q5 hb6;replace h:=h.belw hb6;replace h':=h'.belw hb6;replace h1:=h1.belw hb6;replace h'1:=h'1.belw hb6;replace h2:=h2.belw hb6;replace h'2:=h'2.belw hb6;replace h4:=h4.belw hb6;replace h5:=h5.belw hb6))
 have bw6:=bw3.trans (q6.mono bw3.size);clear lx1a lx1ba lx1bb lx1bc lx1bd cx2a lx2a cx2b lx2b cx3a lx3a cx3b lx3b;replace x1a:=x1a.b q6;replace x1b:=x1b.b q6;replace x2a:=x2a.b q6;replace x2b:=x2b.b q6;replace x3a:=x3a.b q6;replace x3b:=x3b.b q6;have lw6:=q6.size;go_wp2;go_ret;exact cJ rfl bw6
theorem yG (w:World) (b A n c z k) (h:IZ w b A n c z k) (b' A' n' c' z' k') (h':IZ w b' A' n' c' z' k') (q:Rat) (K:Nat) (hd:z'≠0) (hq:Rat.divInt z z'=q) (hs:Sz q K) (hk:k+k'≤300000000) :
 Calls Tryz.prog 116 #[.agg #[.bool b,.slice A n c],.agg #[.bool b',.slice A' n' c']] w (iC w .nilIface q K):=by
 obtain ⟨s,hs1⟩:∃ s,z'.sign=s:=⟨_,rfl⟩;have e0:((s:Int) == 0)=false:=by simp;rintro rfl;exact hd (Int.sign_eq_zero_iff_zero.1 hs1)
 have HS1:=Qh hs1;have HD:=Qh hd;have HQ:=Qh hq;have HS:=Qh hs;clear hs1 hd hq hs;go_in;go_wp2_with fail;(with_reducible refine (fI _ b' A' n' c' (z') (k') ?_ s ?_ ?_).mono ?_);(exact (h'.belw ((((Below.refl _ _).alloc Qr _).alloc (by simp) _).alloc (by simp <;> omega) _)));(exact HS1.out);(omega);rintro e w1 ⟨rfl,hb1⟩;have q1:=hb1.q3;replace h:=h.belw q1;replace h':=h'.belw q1;have x1a:Blk w1 w.heap.size 134 #[.bool b,.slice A n c]:=(((ak _ _ _ (by simp)).alloc _).alloc _).below hb1 (by simp <;> omega);have x1b:=((ak _ _ _ (g:=w.heap.size+1) (by simp)).alloc _).below hb1 (by simp <;> omega);have x1c:=(ak _ _ _ (g:=w.heap.size+1+1) (by simp)).below hb1 (by simp);have bw1:=(aa w).trans (q1.mono (aa w).size);have lw1:=hb1.l3;clear q1;have cx1a:=x1a.c2;have lx1a:=eG x1a.lt;have cx1b:=x1b.c2;have lx1b:=ir x1b.lt;go_wp2_with fail;(with_reducible refine (tV _ b A n c (z) (k) ?_ b' A' n' c' (z') (k') ?_ q K ?_ ?_ ?_ ?_).mono ?_);(exact h);(exact h');(exact HD.out);(exact HQ.out);(exact HS.out);(omega);rintro e w2 ⟨b2,A2,n2,c2,A'2,n'2,c'2,rfl,h2,q2⟩;clear cx1a lx1a cx1b lx1b;replace h:=h.belw q2;replace h':=h'.belw q2;replace x1a:=x1a.b q2;replace x1b:=x1b.b q2;replace x1c:=x1c.b q2;have bw2:=bw1.trans (q2.mono bw1.size);have lw2:=q2.size;clear q2 bw1;have cx1c:=x1c.c3;have fx1c:=x1c.f3;have lx1c:=tq x1c.lt;go_wp2_with fail;refine bodyPost_ret (v:=.tuple #[.agg #[.bool b2,.slice A2 n2 c2,.slice A'2 n'2 c'2],.nilIface]) (by simp [results,Tryz.results116,go_sem, *] <;> trivial) rfl ?_;exact ⟨b2,A2,n2,c2,A'2,n'2,c'2,rfl,h2.keep ((((Kp.refl w2).sb (w.heap.size+1+1) 0 x1c.box (by decide) (.bool b2)).sb (w.heap.size+1+1) 1 (x1c.box.set ⟨w.heap.size+1+1,0,none⟩ (.bool b2)) (by decide) (.slice A2 n2 c2)).sb (w.heap.size+1+1) 2 ((x1c.box.set ⟨w.heap.size+1+1,0,none⟩ (.bool b2)).set ⟨w.heap.size+1+1,1,none⟩ (.slice A2 n2 c2)) (by decide) (.slice A'2 n'2 c'2)),(((bw2.sc (w.heap.size+1+1) 0 (by omega) (.bool b2)).sc (w.heap.size+1+1) 1 (by omega) (.slice A2 n2 c2)).sc (w.heap.size+1+1) 2 (by omega) (.slice A'2 n'2 c'2))⟩
end Go.Proofs.YtndhgcfajlalhaaGreatDoor
namespace Bn
structure TN where
  t:Rat
  h:Bool
deriving DecidableEq
def TN.ok (a:TN):Prop:=a.h=true→a.t=0
/-! ### order -/
def pJ (a b:Rat):Int:=if a < b then -1 else if a=b then 0 else 1
theorem cO {a b:Rat}:pJ a b=0 ↔ a=b:=by
 unfold pJ;split
 ·grind
 split
 ·simpa
 simpa
end Bn

/- Cells that are only read; turns as values. -/
namespace Go.Proofs.YtndhgcfajlalhaaGreatDoor
open Go Go.RowKit Bn
attribute [local go_sem ↓] Go.wp_at_zero Go.wp_at_succ
def Rd (w:World) (g:Nat) (cs:Array Value):Prop:=g < w.heap.size∧∀ i,i < cs.size→w.cell? ⟨g,i,none⟩=cs[i]?
section
variable {w w':World}{g:Nat}{cs:Array Value}
theorem Rd.lt (h:Rd w g cs):g < w.heap.size:=h.1
theorem Rd.cell (h:Rd w g cs) (i:Nat) (hi:i < cs.size):w.cell? ⟨g,i,none⟩=cs[i]?:=h.2 i hi
theorem Rd.below {B:Nat}(h:Rd w g cs) (hb:Below B w w') (hg:g < B):Rd w' g cs:=by
 refine ⟨?_,fun i hi=>?_⟩
 ·have:=hb.block g hg
  rcases Nat.lt_or_ge g w'.heap.size with h1 | h1
  ·exact h1
  rw [Array.getElem?_eq_none h1,Array.getElem?_eq_getElem h.1] at this;cases this
 rw [← h.2 i hi];unfold World.cell?;rw [hb.block g hg]
theorem Rd.alloc (h:Rd w g cs) (o:Obj):Rd (w.alloc o) g cs:=by
 refine ⟨by have:=h.1;simp;omega,fun i hi=>?_⟩;rw [← h.2 i hi];unfold World.cell?;rw [Below.heap_alloc w o g h.1]
theorem Rd.far (h:Rd w g cs) {p:Addr}(hp:g≠p.block) (u:Value):Rd (w.setCell p u) g cs:=by
 refine ⟨by have:=h.1;simp [World.setCell];exact this,fun i hi=>?_⟩;rw [← h.2 i hi];unfold World.cell?;rw [Below.heap_setCell w p u g hp]
end
abbrev xZ (G:Nat) (W0 W:World):Prop:=((∀ b o,b < G→W.cell? ⟨b,o,none⟩=W0.cell? ⟨b,o,none⟩)∧(∀ b o,b < G→W.frozen? ⟨b,o,none⟩=W0.frozen? ⟨b,o,none⟩))∧G≤W.heap.size
theorem xZ.of {W0 W:World}(hb:Below W0.heap.size W0 W):xZ W0.heap.size W0 W:=Sees.of Qr hb

abbrev nU (G g g':Nat) (W0 W:World):Prop:=((∀ b o,b < G→b≠g→b≠g'→W.cell? ⟨b,o,none⟩=W0.cell? ⟨b,o,none⟩)∧(∀ b o,b < G→W.frozen? ⟨b,o,none⟩=W0.frozen? ⟨b,o,none⟩))∧G≤W.heap.size
theorem nU.of {G g g':Nat}{W0 W:World}(h:G≤W0.heap.size) (hb:Below W0.heap.size W0 W):nU G g g' W0 W :=
 ⟨⟨fun b o hlt _ _=>(bS hb).1 b o (Nat.lt_of_lt_of_le hlt h),fun b o hlt=>(bS hb).2 b o (Nat.lt_of_lt_of_le hlt h)⟩,Nat.le_trans h hb.size⟩
theorem nU.set2 {G g g':Nat}{W0 W:World}(h:nU G g g' W0 W) {i:Nat}{u:Value}:nU G g g' W0 (W.setCell ⟨g',i,none⟩ u):=by
 refine ⟨⟨fun b o hlt hne hne'=>?_,fun b o hlt=>?_⟩,?_⟩
 ·rw [← h.1.1 b o hlt hne hne'];unfold World.cell?;rw [Below.heap_setCell _ _ _ b hne']
 ·rw [← h.1.2 b o hlt];exact World.frozen?_setCell ..
 have:=h.2;simp [World.setCell];exact this
def QK (w:World) (b:Bool) (A:Option Addr) (n c:Nat) (D:Option Addr) (m e:Nat) (q:Rat) (k:Nat):Prop:=∃ a,QD w b A n c D m e a k∧a.q=q∧a.ok=true
section
variable {w w':World}{b x:Bool}{A D:Option Addr}{n c m e k j:Nat}{q:Rat}{t:TN}
theorem QK.qz (h:QK w b A n c D m e q k):QZ w b A n c D m e q k:=by obtain ⟨a,h1,h2,_⟩:=h;exact ⟨a,h1,h2⟩
theorem QV.qk (h:QV w b A n c D m e q k):QK w b A n c D m e q k:=⟨_,h,yi q,tm q⟩
theorem QK.belw (h:QK w b A n c D m e q k) (hb:Below w.heap.size w w'):QK w' b A n c D m e q k:=by obtain ⟨a,h1,h2⟩:=h;exact ⟨a,h1.belw hb,h2⟩
theorem QK.keep (h:QK w b A n c D m e q k) (hb:Kp w w'):QK w' b A n c D m e q k:=by obtain ⟨a,h1,h2⟩:=h;exact ⟨a,h1.keep hb,h2⟩
theorem QK.mono (h:QK w b A n c D m e q k) (hk:k≤j):QK w b A n c D m e q j:=by obtain ⟨a,h1,h2⟩:=h;exact ⟨a,h1.mono hk,h2⟩
def TK (w:World) (b:Bool) (A:Option Addr) (n c:Nat) (D:Option Addr) (m e:Nat) (x:Bool) (t:TN) (k:Nat):Prop:=QK w b A n c D m e t.t k∧x=t.h∧t.ok
def TV (w:World) (b:Bool) (A:Option Addr) (n c:Nat) (D:Option Addr) (m e:Nat) (x:Bool) (t:TN) (k:Nat):Prop:=QV w b A n c D m e t.t k∧x=t.h∧t.ok
theorem TV.tk (h:TV w b A n c D m e x t k):TK w b A n c D m e x t k:=⟨h.1.qk,h.2⟩
theorem TK.belw (h:TK w b A n c D m e x t k) (hb:Below w.heap.size w w'):TK w' b A n c D m e x t k:=⟨h.1.belw hb,h.2⟩
theorem TK.keep (h:TK w b A n c D m e x t k) (hb:Kp w w'):TK w' b A n c D m e x t k:=⟨h.1.keep hb,h.2⟩
theorem TV.belw (h:TV w b A n c D m e x t k) (hb:Below w.heap.size w w'):TV w' b A n c D m e x t k:=⟨h.1.belw hb,h.2⟩
theorem TV.keep (h:TV w b A n c D m e x t k) (hb:Kp w w'):TV w' b A n c D m e x t k:=⟨h.1.keep hb,h.2⟩
theorem TK.mono (h:TK w b A n c D m e x t k) (hk:k≤j):TK w b A n c D m e x t j:=⟨h.1.mono hk,h.2⟩
theorem TK.qk (h:TK w b A n c D m e x t k):QK w b A n c D m e t.t k:=h.1
theorem TK.qz (h:TK w b A n c D m e x t k):QZ w b A n c D m e t.t k:=h.1.qz
theorem TV.qk (h:TV w b A n c D m e x t k):QK w b A n c D m e t.t k:=h.1.qk
theorem TV.qz (h:TV w b A n c D m e x t k):QZ w b A n c D m e t.t k:=h.1.qz
theorem TV.mono (h:TV w b A n c D m e x t k) (hk:k≤j):TV w b A n c D m e x t j:=⟨h.1.mono hk,h.2⟩
end

theorem iJ {l:List Bool}{i:Nat}(h:l[i]?=some false):(l.set i true).count false+1=l.count false:=by
 induction l generalizing i with
 | nil=>simp at h
 | cons b l ih =>
  cases i with
  | zero=>simp at h;subst h;simp
  | succ i =>
   simp only [List.getElem?_cons_succ] at h;have:=ih h;simp only [List.set_cons_succ,List.count_cons];omega
section
variable {P:Program}{ops:Array Oper}{Q:Exit→Act→World→Prop}{md:Region.Mode}
theorem lU {L:Array Bool}{i:Nat}(h:i∈Region.ready md ops L):L.toList[i]?=some false:=by
 have h1:=(mem_ready.1 h).1;rcases Nat.lt_or_ge i L.size with h2 | h2
 ·rw [Array.getD_eq_getD_getElem?,Array.getElem?_eq_getElem h2] at h1
  simp only [Option.getD_some] at h1;rw [Array.getElem?_toList,Array.getElem?_eq_getElem h2,h1]
 rw [Array.getD_eq_getD_getElem?,Array.getElem?_eq_none h2] at h1;cases h1
theorem jH (A:Array Bool→Act→World→Prop)
 (hstep:∀ L a w i,L.size=ops.size→i∈Region.ready md ops L→A L a w→wpOp P ops Q i (A (L.setIfInBounds i true)) a w)
 (hend:∀ L a w,L.size=ops.size→Region.ready md ops L=[]→A L a w→Q .normal a w) :
 ∀ (fuel:Nat) (L:Array Bool) (a:Act) (w:World),L.size=ops.size→L.toList.count false≤fuel→A L a w→wpAny P md ops Q fuel L a w:=by
 intro fuel
 induction fuel with
 | zero =>
  intro L a w hs hc hA
  have hr:Region.ready md ops L=[]:=by
   cases hr:Region.ready md ops L with
   | nil=>rfl
   | cons i r =>
    have h1:=lU (md:=md) (ops:=ops) (L:=L) (i:=i) (by rw [hr];simp);have h2:=iJ h1;omega
  exact ⟨hr,hend L a w hs hr hA⟩
 | succ fuel ih =>
  intro L a w hs hc hA;refine ⟨fun hr=>hend L a w hs hr hA,fun i hi=>wpOp_mono (fun a' w' h'=>ih _ _ _ (by simpa using hs) ?_ h') (hstep L a w i hs hi hA)⟩;have h2:=iJ (lU hi);rw [Array.toList_setIfInBounds];omega
end
def dl (w:World) (g:Nat):Nat→List Value→World
  | _,[]=>w
  | i,u :: us=>dl (w.setCell ⟨g,i,none⟩ u) g (i+1) us
def wV (c:Array Value):Nat→List Value→Array Value
  | _,[]=>c
  | i,u :: us=>wV (c.setIfInBounds i u) (i+1) us
section
variable {g:Nat}{t:TypeId}
theorem jW:∀ (us:List Value) (i:Nat) (w:World) (c:Array Value),Blk w g t c→Blk (dl w g i us) g t (wV c i us):=by
 intro us
 induction us with
 | nil=>intro i w c h;exact h
 | cons u us ih=>intro i w c h;exact ih (i+1) _ _ (h.set_ i u)
theorem eC {g':Nat}{t':TypeId}{c':Array Value}(hg:g'≠g):∀ (us:List Value) (i:Nat) (w:World),Blk w g' t' c'→Blk (dl w g i us) g' t' c':=by
 intro us
 induction us with
 | nil=>intro i w h;exact h
 | cons u us ih=>intro i w h;exact ih (i+1) _ (h.far hg u)
theorem dm {B:Nat}{a:World}(hg:B≤g):∀ (us:List Value) (i:Nat) (w:World),Below B a w→Below B a (dl w g i us):=by
 intro us
 induction us with
 | nil=>intro i w h;exact h
 | cons u us ih=>intro i w h;exact ih (i+1) _ (h.setCell (p:=⟨g,i,none⟩) hg u)
end
theorem iK {g:Nat}:∀ (us:List Value) (i:Nat) (w:World),(dl w g i us).heap.size=w.heap.size:=by
 intro us
 induction us with
 | nil=>intro i w;rfl
 | cons u us ih=>intro i w;rw [dl,ih];simp [World.setCell]
structure Flt where
  a:Nat
  s:Nat
  T:TypeId
  Z:Array Value
  PS:Array Value→World→Prop
  [hZ:NoU Z]
structure Own where
  g:Nat
  s:Nat
  o:Nat
  T:TypeId
  Z:Array Value
  PS:Array Value→World→Prop
  [hZ:NoU Z]
def upd (x:Nat→Value) (i:Nat) (v:Value):Nat→Value:=fun j=>if j=i then v else x j
theorem eX (x:Nat→Value) (i:Nat) (v:Value):upd x i v i=v:=by simp [upd]
theorem bm (x:Nat→Value) {i j:Nat}(v:Value) (h:j≠i):upd x i v j=x j:=by simp [upd,h]

section
variable (P:Program) (ops:Array Oper) (Q:Exit→Act→World→Prop) (fr:(Nat→Value)→Act) (R:Nat→Value→World→Prop) (es:List Flt) (ow:List Own) (B:Nat) (W:World)
end
theorem ax {L:Array Bool}{i j:Nat}(hi:i < L.size):(L.setIfInBounds i true).getD j false=(decide (j=i) || L.getD j false):=by
 rw [Array.getD_eq_getD_getElem?,Array.getD_eq_getD_getElem?,Array.getElem?_setIfInBounds];by_cases h:i=j
 ·subst h;simp [hi]
 rw [if_neg h];simp [show ¬ j=i from fun e=>h e.symm]
section
variable {P:Program}{ops:Array Oper}{Q:Exit→Act→World→Prop}{fr:(Nat→Value)→Act}{R:Nat→Value→World→Prop}{es:List Flt}{ow:List Own}{B:Nat}
end

def iL (S:Nat→Oper→Prop):Nat→List Oper→Prop
  | _,[]=>True
  | k,o :: l=>S k o∧iL S (k+1) l
theorem se {S:Nat→Oper→Prop}:∀ (l:List Oper) (k:Nat),iL S k l→∀ i o,l[i]?=some o→S (k+i) o:=by
 intro l
 induction l with
 | nil=>intro k _ i o h;simp at h
 | cons a l ih =>
  intro k h i o ho
  cases i with
  | zero=>simp at ho;subst ho;exact h.1
  | succ i =>
   have:=ih (k+1) h.2 i o (by simpa using ho);rw [show k+(i+1)=k+1+i by omega];exact this
theorem aH {S:Nat→Oper→Prop}{l:List Oper}(h:iL S 0 l):∀ i o,(l.toArray)[i]?=some o→S i o:=fun i o ho=>by
 have:=se l 0 h i o (by simpa using ho);rwa [Nat.zero_add] at this
def ud:Nat→List Oper→Bool
  | _,[]=>true
  | k,o :: l=>o.after.all (fun e=>!Region.binds .any e || decide (e.on < k)) && ud (k+1) l
theorem bT:∀ (l:List Oper) (k:Nat),ud k l=true→iL (fun i o=>∀ e∈o.after,Region.binds .any e=true→e.on < i) k l:=by
 intro l
 induction l with
 | nil=>intro k _;trivial
 | cons a l ih =>
  intro k h;simp only [ud,Bool.and_eq_true] at h;refine ⟨fun e he hb=>?_,ih _ h.2⟩;have:=(Array.all_eq_true_iff_forall_mem.1 h.1) e he;rw [hb] at this;simpa using this
def Br (p:Value→World→Prop):Prop:=∀ v w w',p v w→Kp w w'→p v w'
def mC:List (Value→World→Prop)→Prop
  | []=>True
  | p :: l=>Br p∧mC l
theorem mC.get:∀ (l:List (Value→World→Prop)),mC l→∀ i v w w',l.getD i (fun _ _=>True) v w→Kp w w'→l.getD i (fun _ _=>True) v w':=by
 intro l
 induction l with
 | nil=>intro _ i v w w' _ _;simp
 | cons p l ih =>
  intro h i v w w' hp hk
  cases i with
  | zero=>exact h.1 v w w' hp hk
  | succ i=>exact ih h.2 i v w w' hp hk
def PEq (u:Value):Value→World→Prop:=fun v _=>v=u
def eK:Value→World→Prop:=fun _ _=>True
def PV (w:World) (b:Bool) (A:Option Addr) (n c:Nat) (D:Option Addr) (m e:Nat) (b':Bool) (A':Option Addr) (n' c':Nat) (D':Option Addr) (m' e':Nat) (q:Rat) (k:Nat) (r:Rat) (j:Nat):Prop:=QV w b A n c D m e q k∧QV w b' A' n' c' D' m' e' r j
theorem PV.keep {w w':World}{b b':Bool}{A D A' D':Option Addr}{n c m e n' c' m' e' k j:Nat}{q r:Rat}(h:PV w b A n c D m e b' A' n' c' D' m' e' q k r j) (hk:Kp w w'):PV w' b A n c D m e b' A' n' c' D' m' e' q k r j:=⟨h.1.keep hk,h.2.keep hk⟩
theorem PV.belw {w w':World}{b b':Bool}{A D A' D':Option Addr}{n c m e n' c' m' e' k j:Nat}{q r:Rat}(h:PV w b A n c D m e b' A' n' c' D' m' e' q k r j) (hk:Below w.heap.size w w'):PV w' b A n c D m e b' A' n' c' D' m' e' q k r j:=⟨h.1.belw hk,h.2.belw hk⟩
theorem QK.qv {w:World}{b:Bool}{A D:Option Addr}{n c m e k:Nat}{q:Rat}(h:QK w b A n c D m e q k):QV w b A n c D m e q k:=by
 obtain ⟨a,h1,rfl,h2⟩:=h;unfold QV;rw [fH h1.2.1.1 h1.2.2.1.1 h2];exact h1
theorem TK.tv {w:World}{b x:Bool}{A D:Option Addr}{n c m e k:Nat}{t:TN}(h:TK w b A n c D m e x t k):TV w b A n c D m e x t k:=⟨h.1.qv,h.2⟩
def Ts (w:World) (g n k:Nat):Prop:=g < w.heap.size∧∀ i,i < n→∃ b A m c D m' e x t,w.cell? ⟨g,i * 4,none⟩=some (.bool b)∧w.cell? ⟨g,i * 4+1,none⟩=some (.slice A m c)∧w.cell? ⟨g,i * 4+2,none⟩=some (.slice D m' e)∧w.cell? ⟨g,i * 4+3,none⟩=some (.bool x)∧TK w b A m c D m' e x t k
theorem Ts.belw {w w':World}{g n k:Nat}(h:Ts w g n k) (hb:Below w.heap.size w w'):Ts w' g n k:=by
 obtain ⟨hg,h⟩:=h;have hc:=(bS hb).1;refine ⟨Nat.lt_of_lt_of_le hg hb.size,fun i hi=>?_⟩;obtain ⟨b,A,m,c,D,m',e,x,t,h1,h2,h3,h4,h5⟩:=h i hi;exact ⟨b,A,m,c,D,m',e,x,t,(hc _ _ hg).trans h1,(hc _ _ hg).trans h2,(hc _ _ hg).trans h3,(hc _ _ hg).trans h4,h5.belw hb⟩
def Rs (w:World) (g N:Nat) (ns ms:Nat→Nat):Prop:=g < w.heap.size∧∀ i,i < N→∃ b A c D e,w.cell? ⟨g,i * 3,none⟩=some (.bool b)∧w.cell? ⟨g,i * 3+1,none⟩=some (.slice A (ns i) c)∧w.cell? ⟨g,i * 3+2,none⟩=some (.slice D (ms i) e)
theorem Rs.belw {w w':World}{g N:Nat}{ns ms:Nat→Nat}(h:Rs w g N ns ms) (hb:Below w.heap.size w w'):Rs w' g N ns ms:=by
 obtain ⟨hg,h⟩:=h;have hc:=(bS hb).1;refine ⟨Nat.lt_of_lt_of_le hg hb.size,fun i hi=>?_⟩;obtain ⟨b,A,c,D,e,h1,h2,h3⟩:=h i hi;exact ⟨b,A,c,D,e,(hc _ _ hg).trans h1,(hc _ _ hg).trans h2,(hc _ _ hg).trans h3⟩
def Gs (w:World) (g N k:Nat) (rs:Nat→RD) (xs:Nat→Bool):Prop:=g < w.heap.size∧∀ i,i < N→∃ b A m c D m' e,w.cell? ⟨g,i * 4,none⟩=some (.bool b)∧w.cell? ⟨g,i * 4+1,none⟩=some (.slice A m c)∧w.cell? ⟨g,i * 4+2,none⟩=some (.slice D m' e)∧w.cell? ⟨g,i * 4+3,none⟩=some (.bool (xs i))∧QD w b A m c D m' e (rs i) k
theorem Gs.belw {w w':World}{g N k:Nat}{rs:Nat→RD}{xs:Nat→Bool}(h:Gs w g N k rs xs) (hb:Below w.heap.size w w'):Gs w' g N k rs xs:=by
 obtain ⟨hg,h⟩:=h;have hc:=(bS hb).1;refine ⟨Nat.lt_of_lt_of_le hg hb.size,fun i hi=>?_⟩;obtain ⟨b,A,m,c,D,m',e,h1,h2,h3,h4,h5⟩:=h i hi;exact ⟨b,A,m,c,D,m',e,(hc _ _ hg).trans h1,(hc _ _ hg).trans h2,(hc _ _ hg).trans h3,(hc _ _ hg).trans h4,h5.belw hb⟩
theorem mD (w:World) (A n c l) (wa:Wd w A n c l) (A':Option Addr) (n' c':Nat) (wb:Wd w A' n' c' l) (hn:n≤1000000000) :
 Calls Tryz.prog 117 #[.slice A n c,.slice A' n' c'] w (aB w (.bool true)):=by
 have hnn:n'=n:=by rw [wa.2.1,wb.2.1]
 subst hnn;have HA:=Qh wa;have HB:=Qh wb;clear wa wb;go_in;go_wp2_with fail;go_loopw [5] (fun iv wr=>∃ (i q:Nat),i≤n'∧iv=.int .i64 (i:Nat)∧wr=w.drewN q) (fun iv _=>n' - (intOf iv).toNat)
 case atStart=>exact ⟨0,0,Nat.zero_le _,rfl,rfl⟩
 case round =>
  obtain ⟨i,q,hi,rfl,rfl⟩:=hrel;by_cases hlt:i < n'
  ·obtain ⟨g,o,rfl,hc1⟩:=HA.out.at_ (by omega)
   obtain ⟨g',o',rfl,hc2⟩:=HB.out.at_ (by omega);have h1:=hc1 i hlt;have h2:=hc2 i hlt;have hi0:(0:Int)≤(i:Int):=by omega
   have hi1:(i:Int) < (n':Int):=by omega
   generalize wd l i=x at h1 h2;clear hc1 hc2;go_wp2_with fail;go_quiet (fail);go_wp2;go_roundw
   case rel=>exact ⟨i+1,_,by omega,by go_num,rfl⟩
   case measure=>simp [intOf];omega
  go_wp2;go_ret;exact cQ rfl (by repeat (first | exact Below.refl _ _ | refine af ?_ _))
end Go.Proofs.YtndhgcfajlalhaaGreatDoor
namespace Bn
open Go.Lib
theorem ue {q d:Nat}(hq:0 < q) (hd:d < 10):decDigits (q * 10+d)=decDigits q ++ [UInt8.ofNat (48+d)]:=by
 rw [decDigits,dif_neg (by omega),show (q * 10+d) / 10=q by omega,show (q * 10+d) % 10=d by omega]
def nV:Nat→Nat→List UInt8
  | 0,_=>[]
  | k+1,r=>nV k (r / 10) ++ [UInt8.ofNat (48+r % 10)]
theorem qS:∀ (k:Nat) {q r:Nat},0 < q→r < 10 ^ k→decDigits (q * 10 ^ k+r)=decDigits q ++ nV k r
 | 0,q,r,_,hr=>by
  have:r=0:=by simpa using hr
  subst this;simp [nV]
 | k+1,q,r,hq,hr=>by
  have h1:r / 10 < 10 ^ k:=by rw [Nat.pow_succ] at hr;omega
  have h2:0 < q * 10 ^ k:=Nat.mul_pos hq (Nat.pow_pos (by omega))
  have e:q * 10 ^ (k+1)+r=(q * 10 ^ k+r / 10) * 10+r % 10:=by
   rw [Nat.pow_succ,← Nat.mul_assoc];generalize q * 10 ^ k=P;omega
  rw [e,ue (by omega) (Nat.mod_lt _ (by omega)),qS k hq h1,nV,List.append_assoc]
theorem mE:∀ {k u:Nat},0 < k→u < 10 ^ k→nDigits u≤k
 | 0,_,h,_=>absurd h (by omega)
 | k+1,u,_,hu=>by
  by_cases h:u < 10
  ·rw [nDigits_small h];omega
  rw [nDigits_big h];have h0:k≠0:=by rintro rfl;exact h (by simpa using hu)
  have:=mE (k:=k) (u:=u / 10) (by omega) (by rw [Nat.pow_succ] at hu;omega);omega
theorem nW:∀ k,nV k 0=repeatL [48] k
 | 0=>rfl
 | k+1=>by rw [nV,nW k,repeatL_add,repeatL_one];rfl
theorem uf:∀ {k r:Nat},0 < k→r < 10 ^ k→nV k r=repeatL [48] (k - nDigits r) ++ decDigits r
 | 0,_,h,_=>absurd h (by omega)
 | k+1,r,_,hr=>by
  rw [nV];by_cases h:r < 10
  ·rw [Nat.div_eq_of_lt h,nW,nDigits_small h,decDigits_one h,Nat.mod_eq_of_lt h];rfl
  have h0:k≠0:=by rintro rfl;exact h (by simpa using hr)
  rw [uf (k:=k) (r:=r / 10) (by omega) (by rw [Nat.pow_succ] at hr;omega),nDigits_big h,List.append_assoc];congr 1
  ·congr 1;omega
  conv=>rhs;rw [decDigits,dif_neg h]
def jZ (N q:Nat) (ps:List (List UInt8)):Prop:=(0 < q→decDigits N=decDigits q ++ ps.flatten)∧(q=0→decDigits N=ps.flatten)∧ps.length≤ps.flatten.length
theorem jZ.start {N:Nat}(h:0 < N):jZ N N []:=⟨fun _=>by simp,fun e=>absurd e (by omega),by simp⟩
theorem jZ.more {N q:Nat}{ps:List (List UInt8)}(h:jZ N q ps) (hq:0 < q / 1000000000) :
 jZ N (q / 1000000000) ((repeatL [48] (9 - nDigits (q % 1000000000)) ++ decDigits (q % 1000000000)) :: ps):=by
 have hr:q % 1000000000 < 10 ^ 9:=Nat.mod_lt _ (by omega);have e:q / 1000000000 * 10 ^ 9+q % 1000000000=q:=by rw [Nat.mul_comm];exact Nat.div_add_mod q 1000000000
 refine ⟨fun _=>?_,fun e=>absurd e (by omega),?_⟩
 ·rw [h.1 (by omega),List.flatten_cons,← List.append_assoc,← uf (by omega) hr,← qS 9 hq hr,e]
 have h3:=h.2.2;have h4:=nDigits_pos (q % 1000000000);simp only [List.length_cons,List.flatten_cons,List.length_append,decDigits_length];omega
theorem jZ.last {N q:Nat}{ps:List (List UInt8)}(h:jZ N q ps) (h0:0 < q) (hq:q / 1000000000=0) :
 jZ N (q / 1000000000) (decDigits (q % 1000000000) :: ps):=by
 have e:q % 1000000000=q:=Nat.mod_eq_of_lt (by omega);rw [e];refine ⟨fun e=>absurd e (by omega),fun _=>?_,?_⟩
 ·rw [h.1 h0,List.flatten_cons]
 have h3:=h.2.2;have h4:=nDigits_pos q;simp only [List.length_cons,List.flatten_cons,List.length_append,decDigits_length];omega
theorem jZ.len {N q:Nat}{ps:List (List UInt8)}(h:jZ N q ps):ps.flatten.length≤nDigits N∧ps.length≤nDigits N:=by
 have h3:=h.2.2
 have:ps.flatten.length≤nDigits N:=by
  rw [← decDigits_length];rcases Nat.eq_zero_or_pos q with e | e
  ·rw [h.2.1 e];exact Qr
  rw [h.1 e,List.length_append];omega
 exact ⟨this,by omega⟩
theorem pK {N n:Nat}(hn:0 < n) (h:N < 4294967296 ^ n):nDigits N≤10 * n:=by
 refine mE (by omega) (Nat.lt_of_lt_of_le h ?_);rw [Nat.pow_mul];exact Nat.pow_le_pow_left (by omega) n
theorem fL {N n K:Nat}(hK:n≤K) (h0:0 < K) (h:N < 4294967296 ^ n):nDigits N≤10 * K :=
 pK h0 (Nat.lt_of_lt_of_le h (Nat.pow_le_pow_right (by omega) hK))
theorem sh (ps:List (List UInt8)):join ps []=ps.flatten:=by
 cases ps with
 | nil=>rfl
 | cons x r=>rw [join_cons,joinTail];simp
theorem iM (z:Int):itoa z=(if z < 0 then [45] else []) ++ decDigits z.natAbs:=by
 unfold itoa;split
 ·rfl
 rw [show z.toNat=z.natAbs by omega];rfl
end Bn

/- Digits one by one; texts read as numbers: plain. -/
namespace Bn
open Go.Lib
def dg (V:Nat):List UInt8:=if V=0 then [] else decDigits V
theorem wW {V:Nat}(h:0 < V):dg V=dg (V / 10) ++ [UInt8.ofNat (48+V % 10)]:=by
 unfold dg;rw [if_neg (by omega)];by_cases h1:V < 10
 ·rw [if_pos (by omega),decDigits_one h1,Nat.mod_eq_of_lt h1];rfl
 rw [if_neg (by omega)];conv=>lhs;rw [decDigits,dif_neg h1]
def DgI (N q k r:Nat) (s:List UInt8):Prop:=decDigits N=dg (q * 10 ^ (9 - k)+r) ++ s∧r < 10 ^ (9 - k)
theorem DgI.start {N Q:Nat}{s:List UInt8}(h:decDigits N=dg Q ++ s):DgI N (Q / 1000000000) 0 (Q % 1000000000) s:=by
 refine ⟨?_,Nat.mod_lt _ (by decide)⟩;rw [show Q / 1000000000 * 10 ^ (9 - 0)+Q % 1000000000=Q by rw [Nat.mul_comm];exact Nat.div_add_mod Q 1000000000];exact h
theorem DgI.step {N q k r:Nat}{s:List UInt8}(h:DgI N q k r s) (hk:k < 9) (h0:0 < r∨0 < q):DgI N q (k+1) (r / 10) ([UInt8.ofNat (48+r % 10)] ++ s):=by
 obtain ⟨h1,h2⟩:=h;have e:10 ^ (9 - k)=10 ^ (9 - (k+1)) * 10:=by rw [← Nat.pow_succ];congr 1;omega
 rw [e] at h1 h2;have hp:0 < 10 ^ (9 - (k+1)):=Nat.pow_pos (by omega);unfold DgI;generalize 10 ^ (9 - (k+1))=P at *;have e2:q * (P * 10)+r=(q * P+r / 10) * 10+r % 10:=by rw [← Nat.mul_assoc];omega
 have h3:0 < q * (P * 10)+r:=by
  rcases h0 with h | h
  ·omega
  have:=Nat.mul_pos h (show 0 < P * 10 by omega);omega
 refine ⟨?_,by omega⟩;rw [h1,wW h3,e2,show ((q * P+r / 10) * 10+r % 10) / 10=q * P+r / 10 by omega,show ((q * P+r / 10) * 10+r % 10) % 10=r % 10 by omega,List.append_assoc]
theorem yH {N Q:Nat}{s:List UInt8}(h:decDigits N=dg Q ++ s):s.length≤nDigits N:=by
 rw [← decDigits_length,h,List.length_append];omega
theorem DgI.len {N q k r:Nat}{s:List UInt8}(h:DgI N q k r s):s.length≤nDigits N:=yH h.1

/-! ### Texts read -/
def aM (c:UInt8):Bool:=decide (48≤c.toNat) && decide (c.toNat≤57)
def jI (c:UInt8):Nat:=c.toNat - 48
def ap (l:List UInt8):Nat:=l.foldl (fun a c=>a * 10+jI c) 0
theorem si (l:List UInt8):∀ a,l.foldl (fun a c=>a * 10+jI c) a=a * 10 ^ l.length+ap l:=by
 unfold ap
 induction l with
 | nil=>intro a;simp
 | cons x r ih =>
  intro a;rw [List.foldl_cons,ih,List.foldl_cons,ih (0 * 10+jI x),List.length_cons,Nat.pow_succ,Nat.add_mul];rw [Nat.zero_mul,Nat.zero_add,Nat.mul_assoc,Nat.mul_comm 10,Nat.add_assoc]
theorem fp (a b:List UInt8):ap (a ++ b)=ap a * 10 ^ b.length+ap b:=by
 conv=>lhs;unfold ap
 rw [List.foldl_append,si];rfl
theorem fM (a:List UInt8) (c:UInt8):ap (a ++ [c])=ap a * 10+jI c:=by
 rw [fp];simp [ap]
theorem dK:∀ {l:List UInt8},l.all aM=true→ap l < 10 ^ l.length:=by
 intro l
 induction l with
 | nil=>intro _;simp [ap]
 | cons x r ih =>
  intro h;rw [List.all_cons,Bool.and_eq_true] at h;have h1:=ih h.2
  have hx:jI x≤9:=by
   have:=h.1;unfold aM at this;simp at this;unfold jI;omega
  have e:ap (x :: r)=jI x * 10 ^ r.length+ap r:=by
   have:=fp [x] r;simpa [ap] using this
  rw [e,List.length_cons,Nat.pow_succ];have:=Nat.mul_le_mul_right (10 ^ r.length) hx;omega
def bI (l:List UInt8):List UInt8:=match l with | 45 :: r=>r | l=>l
def bX (l:List UInt8):Bool:=match l with | 45 :: _=>true | _=>false
def okZ (l:List UInt8):Bool:=decide (bI l≠[]) && (bI l).all aM && !(decide ((bI l).head?=some 48) && (decide (1 < (bI l).length) || bX l))
def dT (l:List UInt8):Int:=if bX l then -(ap (bI l):Int) else ap (bI l)
theorem nX {d:Nat}(h:d < 10):aM (UInt8.ofNat (48+d))=true∧jI (UInt8.ofNat (48+d))=d:=by
 have e:(UInt8.ofNat (48+d)).toNat=48+d:=by simp;omega
 unfold aM jI;rw [e];simp;omega
theorem wX (n:Nat):(decDigits n).all aM=true∧ap (decDigits n)=n:=by
 induction n using Nat.strongRecOn with
 | ind n ih =>
  by_cases h:n < 10
  ·rw [decDigits_one h]
   have h1:=nX h;generalize UInt8.ofNat (48+n)=c at h1;refine ⟨by rw [List.all_cons,h1.1];rfl,?_⟩;rw [← List.nil_append [c],fM,h1.2];simp [ap]
  ·have e:decDigits n=decDigits (n / 10) ++ [UInt8.ofNat (48+n % 10)]:=by
    conv=>lhs;rw [decDigits,dif_neg h]
   have h1:=ih (n / 10) (by omega);have h2:=nX (Nat.mod_lt n (show 0 < 10 by omega));generalize UInt8.ofNat (48+n % 10)=c at h2 e;refine ⟨by rw [e,List.all_append,h1.1,List.all_cons,h2.1];rfl,?_⟩;rw [e,fM,h1.2,h2.2];omega
theorem ug {n:Nat}(h:0 < n):∃ c r,decDigits n=c :: r∧c≠48∧c≠45:=by
 induction n using Nat.strongRecOn with
 | ind n ih =>
  by_cases h1:n < 10
  ·rw [decDigits_one h1]
   refine ⟨_,[],rfl,?_,?_⟩
   ·intro e
    have:=congrArg UInt8.toNat e;simp at this;omega
   intro e;have:=congrArg UInt8.toNat e;simp at this;omega
  ·have e:decDigits n=decDigits (n / 10) ++ [UInt8.ofNat (48+n % 10)]:=by
    conv=>lhs;rw [decDigits,dif_neg h1]
   obtain ⟨c,r,h2,h3⟩:=ih (n / 10) (by omega) (by omega);exact ⟨c,r ++ [UInt8.ofNat (48+n % 10)],by rw [e,h2];rfl,h3⟩
theorem wY (z:Int):okZ (itoa z)=true∧dT (itoa z)=z:=by
 rw [iM];rcases Nat.eq_zero_or_pos z.natAbs with h | h
 ·have:z=0:=by omega
  subst this;rw [if_neg (by decide),show (0:Int).natAbs=0 from rfl,decDigits_one (by omega)];decide
 obtain ⟨c,r,e,h1,h2⟩:=ug h;have ha:=wX z.natAbs;by_cases hz:z < 0
 ·rw [if_pos hz]
  have et:bI ([45] ++ decDigits z.natAbs)=decDigits z.natAbs:=rfl;have em:bX ([45] ++ decDigits z.natAbs)=true:=rfl;unfold okZ dT;rw [et,em,ha.1,ha.2,e];simp [h1];omega
 rw [if_neg hz,List.nil_append];have et:bI (decDigits z.natAbs)=decDigits z.natAbs:=by rw [e];unfold bI;split <;> simp_all
 have em:bX (decDigits z.natAbs)=false:=by rw [e];unfold bX;split <;> simp_all
 unfold okZ dT;rw [et,em,ha.1,ha.2,e];simp [h1];omega
end Bn

/- Texts read as numbers: what the library's functions give on digits. Plain. -/
namespace Bn
open Go.Lib
theorem nY {c:UInt8}(h:aM c=true):digitVal c=some (jI c):=by
 unfold aM at h;rw [Bool.and_eq_true,decide_eq_true_eq,decide_eq_true_eq] at h;unfold digitVal jI;rw [if_pos h]
theorem pL:∀ {l:List UInt8},l.all aM=true→∀ acc,decFrom acc l=some (l.foldl (fun a c=>a * 10+jI c) acc):=by
 intro l
 induction l with
 | nil=>intro _ acc;rfl
 | cons x r ih =>
  intro h acc;rw [List.all_cons,Bool.and_eq_true] at h;rw [decFrom,nY h.1,List.foldl_cons];exact ih h.2 _
theorem uh {l:List UInt8}(h:l.all aM=true) (h0:l≠[]):atoi l=some (ap l:Int):=by
 cases l with
 | nil=>exact absurd rfl h0
 | cons x r =>
  have hx:aM x=true:=by rw [List.all_cons,Bool.and_eq_true] at h;exact h.1
  have h1:(x == 45)=false:=by
   apply Bool.eq_false_iff.2;intro e;rw [beq_iff_eq] at e;subst e;exact absurd hx (by decide)
  have h2:(x == 43)=false:=by
   apply Bool.eq_false_iff.2;intro e;rw [beq_iff_eq] at e;subst e;exact absurd hx (by decide)
  unfold atoi;dsimp only;rw [h1,h2];simp only [Bool.false_eq_true,if_false];unfold decNat;rw [if_neg (by simp),pL h];rfl
def kA:List UInt8:=[48,49,50,51,52,53,54,55,56,57]
theorem nZ (c:UInt8):kA.contains c=aM c:=by
 have h:∀ v:Fin 256,kA.contains (UInt8.ofNat v)=aM (UInt8.ofNat v):=by decide +kernel
 have:=h ⟨c.toNat,c.toNat_lt⟩;simpa using this
theorem eL {p:UInt8→Bool}:∀ {l:List UInt8},l.dropWhile p=[] ↔ l.all p=true:=by
 intro l
 induction l with
 | nil=>simp
 | cons x r ih =>
  by_cases h:p x=true
  ·rw [List.dropWhile_cons_of_pos h,ih,List.all_cons,h];simp
  rw [List.dropWhile_cons_of_neg h];simp [h]
theorem kB {p:UInt8→Bool}:∀ {l:List UInt8}{x:UInt8}{r:List UInt8},l.dropWhile p=x :: r→p x=false:=by
 intro l
 induction l with
 | nil=>intro x r h;simp at h
 | cons y s ih =>
  intro x r h;by_cases hy:p y=true
  ·rw [List.dropWhile_cons_of_pos hy] at h;exact ih h
  rw [List.dropWhile_cons_of_neg hy] at h;injection h with h1 h2;subst h1;simpa using hy
theorem wZ {l:List UInt8}:trimS l kA=[] ↔ l.all aM=true:=by
 have hp:(fun b=>kA.contains b)=aM:=funext nZ;unfold trimS trimLeftS trimRightS;rw [hp];rw [eL,List.all_reverse];constructor
 ·intro h
  cases hd:l.reverse.dropWhile aM with
  | nil=>have:=eL.1 hd;rw [List.all_reverse] at this;exact this
  | cons x r =>
   rw [hd,List.all_cons,Bool.and_eq_true] at h;rw [kB hd] at h;exact absurd h.1 (by simp)
 intro h;rw [eL.2 (by rw [List.all_reverse];exact h)];rfl
theorem fN (l:List UInt8):hasPrefix l [45]=bX l:=by
 unfold hasPrefix bX
 cases l with
 | nil=>rfl
 | cons x r =>
  by_cases h:x=45
  ·subst h;rfl
  have e:(45 == x)=false:=by simp;exact fun e=>h e.symm
  simp only [List.isPrefixOf,e,Bool.false_and];split
  ·rename_i h1;injection h1 with h2;exact absurd h2 h
  rfl
theorem iO (l:List UInt8):trimPrefix l [45]=bI l:=by
 unfold trimPrefix;rw [fN];unfold bX bI;split
 ·rename_i r
  rfl
 rfl
theorem sj (l:List UInt8):(bI l).length≤l.length:=by
 unfold bI;split <;> simp
theorem mF (k:Nat):10 ^ k≤4294967296 ^ k:=Nat.pow_le_pow_left (by omega) k
theorem mG {l:List UInt8}(h:l.all aM=true):ap l < 4294967296 ^ l.length:=Nat.lt_of_lt_of_le (dK h) (mF _)
theorem oc {l:List UInt8}{p:UInt8→Bool}(h:l.all p=true) (k:Nat):(l.take k).all p=true:=by
 rw [List.all_eq_true] at h ⊢;exact fun x hx=>h x (List.mem_of_mem_take hx)
theorem od {l:List UInt8}{p:UInt8→Bool}(h:l.all p=true) (k:Nat):(l.drop k).all p=true:=by
 rw [List.all_eq_true] at h ⊢;exact fun x hx=>h x (List.mem_of_mem_drop hx)
def lx (t pre rest:List UInt8):Prop:=t=pre ++ rest∧(pre=[]∨rest.length % 9=0)
theorem lx.step {t pre rest:List UInt8}{n:Nat}(h:lx t pre rest) (h0:0 < rest.length) (hn:(rest.length - 1) % 9+1=n) :
 n≤rest.length∧n≤9∧0 < n∧lx t (pre ++ rest.take n) (rest.drop n)∧ap (pre ++ rest.take n)=ap pre * 1000000000+ap (rest.take n):=by
 have h1:n≤rest.length:=by have:=Nat.mod_le (rest.length - 1) 9;omega
 refine ⟨h1,by have:=Nat.mod_lt (rest.length - 1) (show 0 < 9 by omega);omega,by omega,⟨?_,?_⟩,?_⟩
 ·rw [List.append_assoc,List.take_append_drop];exact h.1
 ·right;rw [List.length_drop];omega
 rw [fp,List.length_take,Nat.min_eq_left h1];rcases h.2 with e | e
 ·subst e;simp [ap]
 have:n=9:=by omega
 subst this;rfl
theorem lx.start (t:List UInt8):lx t [] t:=⟨rfl,.inl rfl⟩
theorem lx.fin {t pre:List UInt8}(h:lx t pre []):pre=t:=by have:=h.1;rw [List.append_nil] at this;exact this.symm
theorem sk {l:List UInt8}(h:okZ l=true):bI l≠[]∧(bI l).all aM=true∧¬ ((bI l).head?=some 48∧(1 < (bI l).length∨bX l=true)):=by
 unfold okZ at h;simp at h;refine ⟨h.1.1,by simpa using h.1.2,fun ⟨a,b⟩=>?_⟩;rcases h.2 with e | e
 ·exact e a
 rcases b with b | b
 ·omega
 rw [b] at e;exact absurd e.2 (by simp)
end Bn

/- Division bit by bit: plain numbers. -/
namespace Bn
theorem ui {l:List Nat}(h:Wds l) (j:Nat):wd l j=val l / 4294967296 ^ j % 4294967296:=by
 have e:=aX l (show l.length≤j+(l.length+1) by omega);have h1:Sm (wd l) j < 4294967296 ^ j:=er (fun i _=>bF h i);rw [pB,nA] at e;simp only [Nat.add_zero] at e;generalize Sm (fun i=>wd l (j+(i+1))) l.length=X at e;rw [← e,Nat.add_mul_div_left _ _ (fG j),Nat.div_eq_of_lt h1,Nat.zero_add,Nat.add_mul_mod_self_left];exact (Nat.mod_eq_of_lt (bF h j)).symm
theorem jJ (i:Nat):4294967296 ^ (i / 32) * 2 ^ (i % 32)=2 ^ i:=by
 have:(4294967296:Nat) ^ (i / 32)=2 ^ (32 * (i / 32)):=by rw [Nat.pow_mul]
 rw [this,← Nat.pow_add,Nat.div_add_mod]
theorem yI {l:List Nat}(h:Wds l) (i:Nat):wd l (i / 32) / 2 ^ (i % 32) % 2=val l / 2 ^ i % 2:=by
 rw [ui h,← jJ i,← Nat.div_div_eq_div_mul];generalize val l / 4294967296 ^ (i / 32)=x;have hs:i % 32 < 32:=Nat.mod_lt _ (by decide);generalize i % 32=s at *;have h1:=Nat.testBit_mod_two_pow x 32 s;simp only [hs,decide_true,Bool.true_and,Nat.testBit_eq_decide_div_mod_eq] at h1;have h2:(x % 2 ^ 32 / 2 ^ s % 2=1) ↔ (x / 2 ^ s % 2=1):=by simpa using h1
 have e:(2:Nat) ^ 32=4294967296:=by decide
 rw [e] at h2;omega
theorem xd (L:List Nat) (j x:Nat) (h:j < L.length):val (L.set j x)+wd L j * 4294967296 ^ j=val L+x * 4294967296 ^ j:=by
 have:=fl L j x L.length h h;rw [aX (L.set j x) (by simp),aX L Qr] at this;exact this
theorem uj {x s:Nat}(hx:x % 2 ^ (s+1)=0):x ||| 2 ^ s=x+2 ^ s:=by
 have h:=Nat.shiftLeft_add_eq_or_of_lt (b:=2 ^ s) (i:=s+1) (Nat.pow_lt_pow_right (by omega) (by omega)) (x / 2 ^ (s+1));rw [Nat.shiftLeft_eq,Nat.div_mul_cancel (Nat.dvd_of_mod_eq_zero hx)] at h;exact h.symm
theorem yJ {L:List Nat}(h:Wds L) (i:Nat) (hi:i / 32 < L.length) {m:Nat}(hv:val L=m * 2 ^ (i+1)) :
 wd L (i / 32) ||| 2 ^ (i % 32)=wd L (i / 32)+2 ^ (i % 32)∧wd L (i / 32)+2 ^ (i % 32) < 4294967296∧val (L.set (i / 32) (wd L (i / 32)+2 ^ (i % 32)))=val L+2 ^ i:=by
 have hs:i % 32 < 32:=Nat.mod_lt _ (by decide)
 have hx:wd L (i / 32) % 2 ^ (i % 32+1)=0:=by
  rw [ui h,hv,Nat.pow_succ,← jJ i];have e1:m * (4294967296 ^ (i / 32) * 2 ^ (i % 32) * 2)=4294967296 ^ (i / 32) * (m * 2 ^ (i % 32+1)):=by rw [Nat.pow_succ];grind
  rw [e1,Nat.mul_div_cancel_left _ (fG _)];have e2:(4294967296:Nat)=2 ^ (i % 32+1) * 2 ^ (31 - i % 32):=by rw [← Nat.pow_add,show i % 32+1+(31 - i % 32)=32 by omega]
  rw [e2,Nat.mod_mul_right_mod,Nat.mul_mod_left]
 refine ⟨uj hx,?_,?_⟩
 ·have h1:wd L (i / 32) ||| 2 ^ (i % 32) < 2 ^ 32:=Nat.or_lt_two_pow (bF h _) (Nat.pow_lt_pow_right (by omega) hs)
  rw [uj hx] at h1;exact h1
 have h1:=xd L (i / 32) (wd L (i / 32)+2 ^ (i % 32)) hi;rw [Nat.add_mul,Nat.mul_comm (2 ^ (i % 32)),jJ] at h1;omega
theorem oe (a k:Nat):a / 2 ^ k=2 * (a / 2 ^ (k+1))+a / 2 ^ k % 2:=by
 rw [Nat.pow_succ,← Nat.div_div_eq_div_mul];omega
theorem yK {a v k r:Nat}(hr:r=2 * (a / 2 ^ (k+1) % v)+a / 2 ^ k % 2) (h:v≤r) (hv:0 < v) :
 a / 2 ^ k / v=2 * (a / 2 ^ (k+1) / v)+1∧a / 2 ^ k % v=r - v:=by
 have e:=oe a k;generalize a / 2 ^ (k+1)=hi at *;generalize hb:a / 2 ^ k % 2=b at *;have hb1:b≤1:=by omega
 rw [e];have hm:=Nat.mod_lt hi hv;have hd:=Nat.div_add_mod hi v
 have e2:2 * hi+b=v * (2 * (hi / v)+1)+(r - v):=by
  rw [Nat.mul_add,Nat.mul_one];have:v * (2 * (hi / v))=2 * (v * (hi / v)):=by grind
  omega
 have hlt:r - v < v:=by omega
 rw [e2];constructor
 ·rw [Nat.mul_add_div hv,Nat.div_eq_of_lt hlt,Nat.add_zero]
 rw [Nat.mul_add_mod,Nat.mod_eq_of_lt hlt]
theorem xe {a v k r:Nat}(hr:r=2 * (a / 2 ^ (k+1) % v)+a / 2 ^ k % 2) (h:r < v) :
 a / 2 ^ k / v=2 * (a / 2 ^ (k+1) / v)∧a / 2 ^ k % v=r:=by
 have hv:0 < v:=by omega
 have e:=oe a k;generalize a / 2 ^ (k+1)=hi at *;generalize hb:a / 2 ^ k % 2=b at *;rw [e];have hd:=Nat.div_add_mod hi v
 have e2:2 * hi+b=v * (2 * (hi / v))+r:=by
  have:v * (2 * (hi / v))=2 * (v * (hi / v)):=by grind
  omega
 rw [e2];constructor
 ·rw [Nat.mul_add_div hv,Nat.div_eq_of_lt h,Nat.add_zero]
 rw [Nat.mul_add_mod,Nat.mod_eq_of_lt h]
def ly (l L:List Nat) (b k cr:Nat):Prop:=(∀ i,k≤i→wd L i=wd l i)∧Sm (wd L) k+cr * 4294967296 ^ k=2 * Sm (wd l) k+b
theorem ly.start (l:List Nat) (b:Nat):ly l l b 0 b:=⟨fun _ _=>rfl,by simp [Sm]⟩
theorem og {x c:Nat}(hc:c≤1) (hx:x < 4294967296):(x * 2 % 4294967296 ||| c)=x * 2 % 4294967296+c∧x * 2 % 4294967296+c < 4294967296∧x / 2147483648≤1:=by
 refine ⟨?_,by omega,by omega⟩;have h:=Nat.shiftLeft_add_eq_or_of_lt (b:=c) (i:=1) (by omega) (x * 2 % 4294967296 / 2);rw [Nat.shiftLeft_eq,Nat.pow_one,show x * 2 % 4294967296 / 2 * 2=x * 2 % 4294967296 by omega] at h;exact h.symm
theorem ly.step {l L:List Nat}{b k cr x:Nat}(h:ly l L b k cr) (hx:wd l k=x) (hlt:x < 4294967296) (hk:k < L.length) :
 ly l (L.set k (x * 2 % 4294967296+cr)) b (k+1) (x / 2147483648):=by
 refine ⟨fun i hi=>?_,?_⟩
 ·rw [bP,if_neg (by omega)];exact h.1 i (by omega)
 rw [bM _ _ _ hk,Sm,hx,Nat.pow_succ];have h2:=h.2;have e:x * 2 % 4294967296+x / 2147483648 * 4294967296=2 * x:=by omega
 have e2:x * 2 % 4294967296 * 4294967296 ^ k+x / 2147483648 * (4294967296 ^ k * 4294967296)=2 * (x * 4294967296 ^ k):=by
  have:(x * 2 % 4294967296+x / 2147483648 * 4294967296) * 4294967296 ^ k=2 * x * 4294967296 ^ k:=by rw [e]
  rw [Nat.add_mul] at this;have e3:x / 2147483648 * (4294967296 ^ k * 4294967296)=x / 2147483648 * 4294967296 * 4294967296 ^ k:=by grind
  rw [e3,← Nat.mul_assoc];exact this
 rw [Nat.add_mul];omega
theorem ly.fin {l L:List Nat}{b k cr:Nat}(h:ly l L b k cr) (hl:l.length=k) (hL:L.length=k) (hs:2 * val l+b < 4294967296 ^ k):val L=2 * val l+b:=by
 have h2:=h.2;rw [aX L (by omega),aX l (by omega)] at h2;rcases Nat.eq_zero_or_pos cr with e | e
 ·subst e;omega
 have:1 * 4294967296 ^ k≤cr * 4294967296 ^ k:=Nat.mul_le_mul_right _ e;omega
theorem uk {r v b m:Nat}(hr:r < v) (hv:v < 4294967296 ^ m) (hb:b≤1):2 * r+b < 4294967296 ^ (m+1):=by
 rw [Nat.pow_succ];omega
end Bn

/- Roots: plain numbers. -/
namespace Bn
theorem yL (k:Nat):2 ^ k * 2 ^ k=2 ^ (2 * k):=by rw [← Nat.pow_add];congr 1;omega
def kC (M r i:Nat):Prop:=r * r≤M∧M < (r+2 ^ i) * (r+2 ^ i)
theorem kC.start {M N:Nat}(h:M < 2 ^ N):kC M 0 (N / 2+1):=by
 refine ⟨Nat.zero_le _,?_⟩;rw [Nat.zero_add,yL];exact Nat.lt_of_lt_of_le h (Nat.pow_le_pow_right (by omega) (by omega))
theorem kC.no {M r i:Nat}(h:kC M r (i+1)) (hx:¬ (r+2 ^ i) * (r+2 ^ i)≤M):kC M r i:=⟨h.1,by omega⟩
theorem kC.fin {M r:Nat}(h:kC M r 0):isq M=r:=yg h.1 (by have:=h.2;simpa using this)
end Bn

/- Numbers of bits: plain numbers. -/
namespace Bn
theorem val_rep (n:Nat):val (List.replicate n 0)=0:=by
 induction n with
 | zero=>rfl
 | succ n ih=>rw [List.replicate_succ,val,ih]
end Bn

/- Walks: the reference's number of bits. -/
namespace Go.Proofs.YtndhgcfajlalhaaGreatDoor
open Go Go.RowKit Bn
attribute [local go_sem ↓] Go.wp_at_zero Go.wp_at_succ

theorem ul {l:List Nat}(h:Wds l) (h0:0 < l.length) {t:Nat}(ht:wd l (l.length - 1) < 2 ^ t):val l < 2 ^ (32 * (l.length - 1)+t):=by
 have e:=aX l Qr;obtain ⟨m,hm⟩:∃ m,l.length=m+1:=⟨l.length - 1,by omega⟩;rw [hm] at e ht ⊢;simp only [Nat.add_sub_cancel] at ht ⊢;rw [Sm] at e;have h1:Sm (wd l) m < 4294967296 ^ m:=er (fun i _=>bF h i);have h2:(4294967296:Nat) ^ m=2 ^ (32 * m):=by rw [Nat.pow_mul]
 rw [h2] at h1 e;rw [Nat.pow_add,← e];have h3:(wd l m+1) * 2 ^ (32 * m)≤2 ^ t * 2 ^ (32 * m):=Nat.mul_le_mul_right _ ht;rw [Nat.add_mul] at h3;rw [Nat.mul_comm (2 ^ (32 * m)) (2 ^ t)];omega
def Bs (w:World) (v n:Nat) (e:Ending) (w':World):Prop:=∃ N:Nat,e=.returned (.int .i64 (N:Nat))∧v < 2 ^ N∧N≤32 * n∧w=w'
theorem um (w:World) (A n c l) (wa:Wd w A n c l) (hn:n≤1099511627776) :
 Calls Tryz.prog 195 #[.slice A n c] w (Bs w (val l) n):=by
 have HL:=Qh wa.2.1;by_cases h0:n=0
 ·subst h0
  have HE:=Qh (show val l=0 by rw [List.eq_nil_of_length_eq_zero HL.out.symm];rfl);clear wa;go_in;go_wp2;go_ret;exact ⟨0,rfl,by rw [HE.out];decide,by omega,rfl⟩
 obtain ⟨g,o,rfl,hgl,hc⟩:=wa.at2 (by omega);have hck:=hc (n - 1) (by omega);have hlt:=wa.lt (n - 1);have hp:0 < n:=by omega
 have HW:=Qh wa.1;obtain ⟨x0,hx0⟩:∃ x,wd l (n - 1)=x:=⟨_,rfl⟩;rw [hx0] at hck hlt;have HX:=Qh hx0;clear hc h0 hx0 wa;have hn0:((n:Int) == 0)=false:=by simp;omega
 go_in;go_wp2_with fail;go_loop [3,4] (fun nv xv=>∃ (t x:Nat),t≤32∧nv=.int .i64 ((32 * (n - 1)+t:Nat):Int)∧xv=.int .u32 (x:Nat)∧x < 4294967296∧x=x0 / 2 ^ t) (fun _ xv=>(intOf xv).toNat)
 case atStart=>exact ⟨0,x0,by omega,by congr 1;omega,rfl,hlt,by simp⟩
 case round =>
  obtain ⟨t,x,ht,rfl,rfl,hx,he⟩:=hrel;have HE:=Qh he;clear he;by_cases hz:x=0
  ·subst hz
   go_wp2;go_ret;refine ⟨32 * (n - 1)+t,rfl,?_,by omega,rfl⟩
   have h1:x0 < 2 ^ t:=by
    have:=HE.out;rcases Nat.lt_or_ge x0 (2 ^ t) with h | h
    ·exact h
    have:=Nat.div_pos h (Nat.pow_pos (by omega));omega
   have:=ul HW.out (by rw [← HL.out];exact hp) (t:=t) (by rw [← HL.out,HX.out];exact h1);rwa [← HL.out] at this
  ·have ht2:t < 32:=by
    rcases Nat.lt_or_ge t 32 with h | h
    ·exact h
    exfalso;have e:t=32:=by omega
    have:=HE.out;rw [e] at this;have:x=0:=by rw [this];exact Nat.div_eq_of_lt hlt
    omega
   have hxp:0 < x:=by omega
   go_wp2;go_round
   case rel=>exact ⟨t+1,x / 2,by omega,by congr 1 <;> omega,by congr 1 <;> omega,by omega,by rw [HE.out,Nat.pow_succ,Nat.div_div_eq_div_mul]⟩
   case measure=>simp [intOf];omega

def iP (w:World) (v:Value) (z:Int) (k:Nat) (e:Ending) (w':World):Prop:=∃ b A n c,e=.returned (.tuple #[.agg #[.bool b,.slice A n c],v])∧IV w' b A n c z k∧Below w.heap.size w w'
end Go.Proofs.YtndhgcfajlalhaaGreatDoor
