/- Part CQ2: lemmas and walks that the claim rests on. No claim is made here. -/
import Derived.Deep.RegionHeld3
import Derived.Deep.DrawnRows
import Derived.IntWalk
import Derived.Deep.DeepCutAuto
import Derived.Test.YtndhgcfajlalhaaGreatDoorProg
import Derived.WalkKit
import Derived.WalkSpells
import Derived.WalkLawsBesides
import Derived.BigQuiet
import Derived.Deep.QuietTactic
import Derived.Deep.AppendLies
import Derived.Lib.Hide
import Derived.Laws.OwnMore
import Derived.Deep.RegionHeld
import Derived.Lib.ItoaNum
import Derived.Lib.ItoaMem
import Derived.Lib.Repeat
import Derived.Lib.Join
import Derived.Lib.Atoi
import Derived.Lib.SlTrimSet
import Derived.Test.YtndhgcfajlalhaaGreatDoorCQ1
set_option linter.unusedVariables false
set_option maxHeartbeats 8000000
set_option maxRecDepth 100000
/- Walks: integer.Div. -/
namespace Go.Proofs.YtndhgcfajlalhaaGreatDoor
open Go Go.RowKit Bn
attribute [local go_sem ↓] Go.wp_at_zero Go.wp_at_succ

theorem EE {a b q r:Int}(hb:b≠0) (h:r+b*q=a) (c:0<=r) (k:r<b.natAbs):a/b=q/\a%b=r:=by
 rcases Int.lt_or_gt_of_ne hb with j | i
 ·have f:r+-b * -q=a:=by rw [Int.neg_mul_neg];exact h
  obtain ⟨g,d⟩:=(Int.ediv_emod_unique (a:=a) (b:=-b) (q:=-q) (r:=r) (by omega)).2 ⟨f,c,by omega⟩;rw [Int.ediv_neg] at g;rw [Int.emod_neg] at d;exact ⟨by omega,d⟩
 exact (Int.ediv_emod_unique (by omega)).2 ⟨h,c,by omega⟩
theorem iC {sa sb:Bool}{x y:Nat}(b:y≠0) (h:sa=false\/x%y=0):sgn sa x/sgn sb y=sgn (!(sa==sb)) (x/y)/\sgn sa x%sgn sb y=((x%y:Nat):Int):=by
 have a:((x%y:Nat):Int)+(y:Int)*((x/y:Nat):Int)=(x:Int):=by exact_mod_cast Nat.mod_add_div x y
 have d:x%y<y:=Nat.mod_lt _ (Nat.pos_of_ne_zero b);apply EE
 ·cases sb <;> simp [sgn] <;> omega
 ·cases sa
  ·cases sb <;> simp only [sgn] <;> simp [Int.neg_mul,Int.mul_neg] <;> simpa using a
  have c:x%y=0:=by simpa using h
  rw [c] at a ⊢;cases sb <;> simp only [sgn] <;> simp [Int.neg_mul,Int.mul_neg] at a ⊢ <;> omega
 ·omega
 cases sb <;> simp [sgn] <;> omega
theorem AY {sb:Bool}{x y:Nat}(b:y≠0) (h:x%y≠0):sgn true x/sgn sb y=sgn (!(true==sb)) (x/y+1)/\sgn true x%sgn sb y=((y-x%y:Nat):Int):=by
 have f:((x%y:Nat):Int)+(y:Int)*((x/y:Nat):Int)=(x:Int):=by exact_mod_cast Nat.mod_add_div x y
 have d:x%y<y:=Nat.mod_lt _ (Nat.pos_of_ne_zero b);have c:((y-x%y:Nat):Int)=(y:Int)-((x%y:Nat):Int):=by omega
 have a:(y:Int)*(((x/y:Nat):Int)+1)=(y:Int)*((x/y:Nat):Int)+y:=by rw [Int.mul_add,Int.mul_one]
 apply EE
 ·cases sb <;> simp [sgn] <;> omega
 ·rw [c]
  cases sb
  ·show _+(y:Int) * -((x/y+1:Nat):Int)=-(x:Int)
   rw [Int.mul_neg,Int.natCast_add,show ((1:Nat):Int)=1 from rfl,a];generalize (y:Int)*((x/y:Nat):Int)=Q at *;omega
  show _+-(y:Int)*((x/y+1:Nat):Int)=-(x:Int);rw [Int.neg_mul,Int.natCast_add,show ((1:Nat):Int)=1 from rfl,a];generalize (y:Int)*((x/y:Nat):Int)=Q at *;omega
 ·omega
 cases sb <;> simp [sgn] <;> omega
theorem yc (w:World) (A n c l) (i:Wd w A n c l) (k:n<=1099511627000) (A' n' c' l') (d:Wd w A' n' c' l') (a:n'<=1099511627000) (h:aZ l) (b:aZ l') (x y:Nat) (j:val l=x) (f:val l'=y) (g:y≠0) :
 Calls Tryz.prog 171 #[.slice A n c,.slice A' n' c'] w (sV w x y):=by subst j f;exact qR w A n c l i k A' n' c' l' d a h b g
theorem CY (w:World) (A n c l) (d:Wd w A n c l) (f:n<=1099511627776) (A' n' c' l') (b:Wd w A' n' c' l') (a:n'<=1099511627776) (z:Nat) (g:val l+val l'=z) :
 Calls Tryz.prog 141 #[.slice A n c,.slice A' n' c'] w (fz w (ap z)):=by subst g;exact sQ w A n c l d f A' n' c' l' b a
theorem CZ (w:World) (A n c l) (f:Wd w A n c l) (g:n<=1099511627776) (A' n' c' l') (b:Wd w A' n' c' l') (a:n'<=n) (d:val l'<=val l) (z:Nat) (h:val l-val l'=z) :
 Calls Tryz.prog 142 #[.slice A n c,.slice A' n' c'] w (fz w (ap z)):=by subst h;exact sR w A n c l f g A' n' c' l' b a d
theorem yd {w:World}{A:Option Addr}{n c z N:Nat}(h:Wd w A n c (ap z)) (hN:n<=N):(ap (z+1)).length<=N+1:=by
 have a:=h.vlt hN;rw [ah] at a;refine ay (Nat.lt_of_le_of_lt a ?_);rw [Nat.pow_succ];have:=gN N;omega
def C0 (w:World) (q r:Int) (e:Ending) (w':World):Prop:=∃ A1 n1 c1 A2 n2 c2,e=.returned (.tuple #[.agg #[.bool (wh q).neg,.slice A1 n1 c1],.agg #[.bool (wh r).neg,.slice A2 n2 c2],.nilIface])/\Wd w' A1 n1 c1 (wh q).mag/\Wd w' A2 n2 c2 (wh r).mag/\Below w.heap.size w w'
theorem kp4 {w:World}{g b:Nat}{t d:TypeId}(x:Box w g t) (k:Box w b d) (f:KT t=false) (a:KT d=false) (i j n m:Nat) (u v l c:Value) :
 Kp w ((((w.setCell ⟨g,i,none⟩ u).setCell ⟨g,j,none⟩ v).setCell ⟨b,n,none⟩ l).setCell ⟨b,m,none⟩ c) :=
 fun h _ _ y=>y.same ((Below.heap_setCell _ _ c h (y.neB k a)).trans ((Below.heap_setCell _ _ l h (y.neB k a)).trans ((Below.heap_setCell _ _ v h (y.neB x f)).trans (Below.heap_setCell w _ u h (y.neB x f)))))
theorem EF (w:World) (b:Bool) (A n c l) (h:Wd w A n c l) (hn:n<=1099511627000) (F:Bool) (A' n' c' l') (j:Wd w A' n' c' l') (ao:n'<=1099511627000) (h0:WD.z ⟨F,l'⟩≠0) :
 Calls Tryz.prog 139 #[.agg #[.bool b,.slice A n c],.agg #[.bool F,.slice A' n' c']] w (C0 w (WD.z ⟨b,l⟩/WD.z ⟨F,l'⟩) (WD.z ⟨b,l⟩%WD.z ⟨F,l'⟩)):=by
 have HL:=Qh h.2.1;have aC:=Qh j.2.1;have a0:aZ (WD.m ⟨b,l⟩):=WD.canon_m h.1;have aT:aZ (WD.m ⟨F,l'⟩):=WD.canon_m j.1;rw [WD.z_eq] at h0 ⊢;rw [WD.z_eq ⟨F,l'⟩];have aS:val (WD.m ⟨F,l'⟩)≠0:=by intro e;rw [e] at h0;exact h0 (by cases (WD.s ⟨F,l'⟩) <;> rfl)
 obtain ⟨sa,ac⟩:∃ s,WD.s ⟨b,l⟩=s:=⟨_,rfl⟩;obtain ⟨sb,ad⟩:∃ s,WD.s ⟨F,l'⟩=s:=⟨_,rfl⟩;rw [ac,ad];obtain ⟨x,hx⟩:∃ x,val (WD.m ⟨b,l⟩)=x:=⟨_,rfl⟩;obtain ⟨y,hy⟩:∃ y,val (WD.m ⟨F,l'⟩)=y:=⟨_,rfl⟩;rw [hx,hy];have P:=Qh (And.intro ac ad);have HX:=Qh (And.intro hx hy);have HY:=Qh (show y≠0 from hy ▸ aS);have an:=Nat.mod_lt x (Nat.pos_of_ne_zero HY.out);have HR:=Qh an;clear ac ad hx hy aS h0 an;go_in;go_wp2_with fail;have b0:Below w.heap.size w ((((w.alloc (.cells #[.bool b,.slice A n c] 134)).alloc (.cells #[.bool F,.slice A' n' c'] 134)).alloc (.cells #[.bool false,.slice none 0 0] 134)).alloc (.cells #[.bool false,.slice none 0 0] 134)):=(((((Below.refl _ _).alloc Qr _).alloc (by simp) _).alloc (by simp;omega) _).alloc (by simp;omega) _);generalize k:((((w.alloc (.cells #[.bool b,.slice A n c] 134)).alloc (.cells #[.bool F,.slice A' n' c'] 134)).alloc (.cells #[.bool false,.slice none 0 0] 134)).alloc (.cells #[.bool false,.slice none 0 0] 134))=W0 at b0 ⊢;have bd:W0.cell? ⟨w.heap.size,0,none⟩=some (.bool b):=by subst k;simp [go_sem]
 have a9:W0.frozen? ⟨w.heap.size,0,none⟩=false:=by subst k;simp [go_sem]
 have bg:W0.cell? ⟨w.heap.size,1,none⟩=some (.slice A n c):=by subst k;simp [go_sem]
 have bw:W0.frozen? ⟨w.heap.size,1,none⟩=false:=by subst k;simp [go_sem]
 have a7:W0.cell? ⟨w.heap.size+1,0,none⟩=some (.bool F):=by subst k;simp [go_sem]
 have bs:W0.frozen? ⟨w.heap.size+1,0,none⟩=false:=by subst k;simp [go_sem]
 have bu:W0.cell? ⟨w.heap.size+1,1,none⟩=some (.slice A' n' c'):=by subst k;simp [go_sem]
 have a8:W0.frozen? ⟨w.heap.size+1,1,none⟩=false:=by subst k;simp [go_sem]
 have bx:W0.cell? ⟨w.heap.size+1+1,0,none⟩=some (.bool false):=by subst k;simp [go_sem]
 have bv:W0.frozen? ⟨w.heap.size+1+1,0,none⟩=false:=by subst k;simp [go_sem]
 have bf:W0.cell? ⟨w.heap.size+1+1,1,none⟩=some (.slice none 0 0):=by subst k;simp [go_sem]
 have a3:W0.frozen? ⟨w.heap.size+1+1,1,none⟩=false:=by subst k;simp [go_sem]
 have a6:W0.cell? ⟨w.heap.size+1+1+1,0,none⟩=some (.bool false):=by subst k;simp [go_sem]
 have bb:W0.frozen? ⟨w.heap.size+1+1+1,0,none⟩=false:=by subst k;simp [go_sem]
 have a4:W0.cell? ⟨w.heap.size+1+1+1,1,none⟩=some (.slice none 0 0):=by subst k;simp [go_sem]
 have br:W0.frozen? ⟨w.heap.size+1+1+1,1,none⟩=false:=by subst k;simp [go_sem]
 have x0:Box W0 w.heap.size 134:=by subst k;exact (((bG _ _ _ (by simp)).alloc _).alloc _).alloc _
 have x1:Box W0 (w.heap.size+1) 134:=by subst k;exact ((bG _ _ _ (by simp)).alloc _).alloc _
 have x2:Box W0 (w.heap.size+1+1) 134:=by subst k;exact (bG _ _ _ (by simp)).alloc _
 have x3:Box W0 (w.heap.size+1+1+1) 134:=by subst k;exact bG _ _ _ (by simp)
 have D:ji (w.heap.size+1+1) (w.heap.size+1+1+1+1) 2 W0:=by subst k;exact Cs (by simp) rfl
 have a:w.heap.size+1+1+1+1<=W0.heap.size:=by subst k;simp
 clear k;have h:=h.belw b0;have j:=j.belw b0;have r0:Below W0.heap.size W0 W0:=ae _
 go_wp2_with (first
  | (go_at_call 120;(with_reducible refine (eO _ F A' n' c' l' ?_ ?_).mono ?_);(exact j);(omega);rintro e w1 ⟨A1,n1,c1,rfl,q,al⟩;have e1:((n1:Int)==0)=false:=(by have:=q.2.1;have M:=HX.out.2;have h7:=HY.out;have J:n1≠0:=(fun e=>by rw [List.eq_nil_of_length_eq_zero (show (WD.m ⟨F,l'⟩).length=0 by omega)] at M;exact h7 M.symm);simp;omega);have r1:=aj r0 al;replace h:=h.belw al;replace j:=j.belw al;(try clear sc E C sz);obtain ⟨⟨sc,E⟩,C,sz⟩:=ba.of (by omega) a D r1)
  | (go_at_call 120;(with_reducible refine (eO _ b A n c l ?_ ?_).mono ?_);(exact h);(omega);rintro e w2 ⟨A2,n2,c2,rfl,r,Q⟩;have r2:=aj r1 Q;replace h:=h.belw Q;replace j:=j.belw Q;replace q:=q.belw Q;(try clear sc E C sz);obtain ⟨⟨sc,E⟩,C,sz⟩:=ba.of (by omega) a D r2)
  | (go_at_call 171;(with_reducible refine (yc _ A2 n2 c2 (WD.m ⟨b,l⟩) ?_ ?_ A1 n1 c1 (WD.m ⟨F,l'⟩) ?_ ?_ a0 aT x y ?_ ?_ ?_).mono ?_);(exact r);(exact r.m_len (by rw [<- HL.out];exact hn));(exact q);(exact q.m_len (by rw [<- aC.out];exact ao));(exact HX.out.1);(exact HX.out.2);(exact HY.out);rintro e w3 ⟨A3,n3,c3,A4,n4,c4,rfl,u,t,K⟩;have r3:=aj r2 K;replace h:=h.belw K;replace j:=j.belw K;replace q:=q.belw K;replace r:=r.belw K;(try clear sc E C sz);obtain ⟨⟨sc,E⟩,C,sz⟩:=ba.of (by omega) a D r3))
 have a1:n3<=1099511627000:=by
  rw [u.2.1];exact pl (Nat.lt_of_le_of_lt (Nat.div_le_self _ _) (HX.out.1 ▸ r.vlt Qr)) (r.m_len (by rw [<- HL.out];exact hn))
 have a5:n1<=1099511627000:=q.m_len (by rw [<- aC.out];exact ao);have a2:n4<=n1:=ua t HY.out (HX.out.2 ▸ q.vlt Qr);cases sa
 ·go_wp2_with (first
   | (go_at_call 121;(with_reducible refine (fM _ b A n c l false ?_ ?_ ?_).mono ?_);(exact h);(omega);(exact P.out.1);rintro e w4 ⟨rfl,p⟩;have Y:=aj r3 p;replace h:=h.belw p;replace j:=j.belw p;replace q:=q.belw p;replace r:=r.belw p;replace u:=u.belw p;replace t:=t.belw p;(try clear sc E C sz);obtain ⟨⟨sc,E⟩,C,sz⟩:=ba.of (by omega) a D Y))
  have U:=Qh (iC (sa:=false) (sb:=sb) (x:=x) HY.out (.inl rfl));(try clear sc E C sz);have o:w.heap.size+1+1<=w.heap.size+1+1+1+1:=by omega
  go_region_held3 (fun w'=>Sees (w.heap.size+1+1) W0 w') (first | exact Sees.of (Nat.le_trans o a) (by assumption) | exact Sees.of (Nat.le_trans o a) (af (by assumption) _) | exact (Sees.set (Sees.of (Nat.le_trans o a) (by assumption)) (by simp)) | exact (Sees.set (Sees.set (Sees.of (Nat.le_trans o a) (by assumption)) (by simp)) (by simp)) | exact (Sees.set (Sees.set (Sees.set (Sees.of (Nat.le_trans o a) (by assumption)) (by simp)) (by simp)) (by simp)) | exact (Sees.set (Sees.set (Sees.set (Sees.set (Sees.of (Nat.le_trans o a) (by assumption)) (by simp)) (by simp)) (by simp)) (by simp)))
   (first
    | (go_at_call 121;(with_reducible refine (fM _ b A n c l false ?_ ?_ ?_).mono ?_);(exact h);(omega);(exact P.out.1);rintro e w5 ⟨rfl,d⟩;replace d:=aj (af (ae _) 1) d;have r5:=aj Y d;replace h:=h.belw d;replace j:=j.belw d;replace q:=q.belw d;replace r:=r.belw d;replace u:=u.belw d;replace t:=t.belw d)
    | (go_at_call 121;(with_reducible refine (fM _ F A' n' c' l' sb ?_ ?_ ?_).mono ?_);(exact j);(omega);(exact P.out.2);rintro e w6 ⟨rfl,i⟩;have r6:=aj r5 i;replace h:=h.belw i;replace j:=j.belw i;replace q:=q.belw i;replace r:=r.belw i;replace u:=u.belw i;replace t:=t.belw i)
    | (go_at_call 140;(with_reducible refine (cZ _ sb A3 n3 c3 (ap (x/y)) (sgn false x/sgn sb y) ?_ ?_ ?_).mono ?_);(exact u);(omega);(rw [U.out.1,ah];cases sb <;> rfl);rintro e w7 ⟨X,n8,V,rfl,J,g⟩;have r7:=aj r6 g;replace h:=h.belw g;replace j:=j.belw g;replace q:=q.belw g;replace r:=r.belw g;replace u:=u.belw g;replace t:=t.belw g)
    | (go_at_call 140;(with_reducible refine (cZ _ false A4 n4 c4 (ap (x%y)) (sgn false x%sgn sb y) ?_ ?_ ?_).mono ?_);(exact t);(omega);(rw [U.out.2,ah];rfl);rintro e w8 ⟨W,n9,S,rfl,M,f⟩;have N:=aj r7 f;replace h:=h.belw f;replace j:=j.belw f;replace q:=q.belw f;replace r:=r.belw f;replace u:=u.belw f;replace t:=t.belw f;replace J:=J.belw f;obtain ⟨⟨sc,E⟩,C,sz⟩:=ba.of (by omega) a D N))
  clear o;go_wp2_with fail;refine bodyPost_ret (v:=.tuple #[.agg #[.bool _,.slice X n8 V],.agg #[.bool _,.slice W n9 S],.nilIface]) (by simp [results,Tryz.results139,go_sem,C];first | rfl | exact ⟨rfl,rfl⟩) rfl ?_;have Z:=x2.below N;have T:=x3.below N;refine ⟨X,n8,V,W,n9,S,rfl,?_,?_,?_⟩
  ·exact J.keep (kp4 Z T (by decide) (by decide) _ _ _ _ _ _ _ _)
  ·exact M.keep (kp4 Z T (by decide) (by decide) _ _ _ _ _ _ _ _)
  exact ((((b0.trans (N.mono b0.size)).setCell (by dsimp only;omega) _).setCell (by dsimp only;omega) _).setCell (by dsimp only;omega) _).setCell (by dsimp only;omega) _
 by_cases H:x%y=0
 ·have ab:=Qh H
  have L:n4=0:=by rw [t.2.1,H,az];rfl
  clear H;subst L
  go_wp2_with (first
   | (go_at_call 121;(with_reducible refine (fM _ b A n c l true ?_ ?_ ?_).mono ?_);(exact h);(omega);(exact P.out.1);rintro e w4 ⟨rfl,p⟩;have Y:=aj r3 p;replace h:=h.belw p;replace j:=j.belw p;replace q:=q.belw p;replace r:=r.belw p;replace u:=u.belw p;replace t:=t.belw p;(try clear sc E C sz);obtain ⟨⟨sc,E⟩,C,sz⟩:=ba.of (by omega) a D Y))
  have U:=Qh (iC (sa:=true) (sb:=sb) (x:=x) HY.out (.inr ab.out));(try clear sc E C sz);have o:w.heap.size+1+1<=w.heap.size+1+1+1+1:=by omega
  go_region_held3 (fun w'=>Sees (w.heap.size+1+1) W0 w') (first | exact Sees.of (Nat.le_trans o a) (by assumption) | exact Sees.of (Nat.le_trans o a) (af (by assumption) _) | exact (Sees.set (Sees.of (Nat.le_trans o a) (by assumption)) (by simp)) | exact (Sees.set (Sees.set (Sees.of (Nat.le_trans o a) (by assumption)) (by simp)) (by simp)) | exact (Sees.set (Sees.set (Sees.set (Sees.of (Nat.le_trans o a) (by assumption)) (by simp)) (by simp)) (by simp)) | exact (Sees.set (Sees.set (Sees.set (Sees.set (Sees.of (Nat.le_trans o a) (by assumption)) (by simp)) (by simp)) (by simp)) (by simp)))
   (first
    | (go_at_call 121;(with_reducible refine (fM _ b A n c l true ?_ ?_ ?_).mono ?_);(exact h);(omega);(exact P.out.1);rintro e w5 ⟨rfl,d⟩;replace d:=aj (af (ae _) 1) d;have r5:=aj Y d;replace h:=h.belw d;replace j:=j.belw d;replace q:=q.belw d;replace r:=r.belw d;replace u:=u.belw d;replace t:=t.belw d)
    | (go_at_call 121;(with_reducible refine (fM _ F A' n' c' l' sb ?_ ?_ ?_).mono ?_);(exact j);(omega);(exact P.out.2);rintro e w6 ⟨rfl,i⟩;have r6:=aj r5 i;replace h:=h.belw i;replace j:=j.belw i;replace q:=q.belw i;replace r:=r.belw i;replace u:=u.belw i;replace t:=t.belw i)
    | (go_at_call 140;(with_reducible refine (cZ _ (!sb) A3 n3 c3 (ap (x/y)) (sgn true x/sgn sb y) ?_ ?_ ?_).mono ?_);(exact u);(omega);(rw [U.out.1,ah];cases sb <;> rfl);rintro e w7 ⟨X,n8,V,rfl,J,g⟩;have r7:=aj r6 g;replace h:=h.belw g;replace j:=j.belw g;replace q:=q.belw g;replace r:=r.belw g;replace u:=u.belw g;replace t:=t.belw g)
    | (go_at_call 140;(with_reducible refine (cZ _ false A4 0 c4 (ap (x%y)) (sgn true x%sgn sb y) ?_ ?_ ?_).mono ?_);(exact t);(omega);(rw [U.out.2,ah];rfl);rintro e w8 ⟨W,n9,S,rfl,M,f⟩;have N:=aj r7 f;replace h:=h.belw f;replace j:=j.belw f;replace q:=q.belw f;replace r:=r.belw f;replace u:=u.belw f;replace t:=t.belw f;replace J:=J.belw f;obtain ⟨⟨sc,E⟩,C,sz⟩:=ba.of (by omega) a D N))
  clear o;go_wp2_with fail;refine bodyPost_ret (v:=.tuple #[.agg #[.bool _,.slice X n8 V],.agg #[.bool _,.slice W n9 S],.nilIface]) (by simp [results,Tryz.results139,go_sem,C];first | rfl | exact ⟨rfl,rfl⟩) rfl ?_;have Z:=x2.below N;have T:=x3.below N;refine ⟨X,n8,V,W,n9,S,rfl,?_,?_,?_⟩
  ·exact J.keep (kp4 Z T (by decide) (by decide) _ _ _ _ _ _ _ _)
  ·exact M.keep (kp4 Z T (by decide) (by decide) _ _ _ _ _ _ _ _)
  exact ((((b0.trans (N.mono b0.size)).setCell (by dsimp only;omega) _).setCell (by dsimp only;omega) _).setCell (by dsimp only;omega) _).setCell (by dsimp only;omega) _
 have ab:=Qh H
 have L:0<n4:=by
  rcases Nat.eq_zero_or_pos n4 with e | e
  ·exfalso
   have M:=t.2.1;rw [e] at M;exact H (bp.1 (List.eq_nil_of_length_eq_zero M.symm))
  exact e
 have e2:decide (0<n4)=true:=by simp [L]
 clear H
 go_wp2_with (first
  | (go_at_call 121;(with_reducible refine (fM _ b A n c l true ?_ ?_ ?_).mono ?_);(exact h);(omega);(exact P.out.1);rintro e w4 ⟨rfl,p⟩;have Y:=aj r3 p;replace h:=h.belw p;replace j:=j.belw p;replace q:=q.belw p;replace r:=r.belw p;replace u:=u.belw p;replace t:=t.belw p;(try clear sc E C sz);obtain ⟨⟨sc,E⟩,C,sz⟩:=ba.of (by omega) a D Y)
  | (go_at_call 141;(with_reducible refine (CY _ A3 n3 c3 (ap (x/y)) ?_ ?_ (some ⟨w4.heap.size,0,none⟩) 1 1 [1] ?_ ?_ (x/y+1) ?_).mono ?_);(exact (u.keep ((Kp.refl _).alloc _)));(omega);(exact qQ _ _ _ rfl (by decide));(omega);(rw [ah];rfl);rintro e w5 ⟨A5,n5,c5,rfl,I,d⟩;replace d:=((Below.refl _ _).alloc Qr _).trans (d.mono (by simp));have r5:=aj Y d;replace h:=h.belw d;replace j:=j.belw d;replace q:=q.belw d;replace r:=r.belw d;replace u:=u.belw d;replace t:=t.belw d;(try clear sc E C sz);obtain ⟨⟨sc,E⟩,C,sz⟩:=ba.of (by omega) a D r5)
  | (go_at_call 142;(with_reducible refine (CZ _ A1 n1 c1 (WD.m ⟨F,l'⟩) ?_ ?_ A4 n4 c4 (ap (x%y)) ?_ ?_ ?_ (y-x%y) ?_).mono ?_);(exact q);(omega);(exact t);(exact a2);(rw [ah,HX.out.2];exact Nat.le_of_lt HR.out);(rw [ah,HX.out.2]);rintro e w6 ⟨A6,n6,c6,rfl,O,i⟩;have r6:=aj r5 i;replace h:=h.belw i;replace j:=j.belw i;replace q:=q.belw i;replace r:=r.belw i;replace u:=u.belw i;replace t:=t.belw i;replace I:=I.belw i;(try clear sc E C sz);obtain ⟨⟨sc,E⟩,C,sz⟩:=ba.of (by omega) a D r6))
 have bk:n5<=1099511627001:=by rw [I.2.1];exact yd u a1
 have bl:n6<=n1:=by rw [O.2.1];exact pl (Nat.lt_of_le_of_lt (Nat.sub_le _ _) (HX.out.2 ▸ q.vlt Qr)) Qr
 have U:=Qh (AY (sb:=sb) (x:=x) HY.out ab.out);(try clear sc E C sz);have o:w.heap.size+1+1<=w.heap.size+1+1+1+1:=by omega
 go_region_held3 (fun w'=>Sees (w.heap.size+1+1) W0 w') (first | exact Sees.of (Nat.le_trans o a) (by assumption) | exact Sees.of (Nat.le_trans o a) (af (by assumption) _) | exact (Sees.set (Sees.of (Nat.le_trans o a) (by assumption)) (by simp)) | exact (Sees.set (Sees.set (Sees.of (Nat.le_trans o a) (by assumption)) (by simp)) (by simp)) | exact (Sees.set (Sees.set (Sees.set (Sees.of (Nat.le_trans o a) (by assumption)) (by simp)) (by simp)) (by simp)) | exact (Sees.set (Sees.set (Sees.set (Sees.set (Sees.of (Nat.le_trans o a) (by assumption)) (by simp)) (by simp)) (by simp)) (by simp)))
  (first
   | (go_at_call 121;(with_reducible refine (fM _ b A n c l true ?_ ?_ ?_).mono ?_);(exact h);(omega);(exact P.out.1);rintro e w7 ⟨rfl,g⟩;replace g:=aj (af (ae _) 1) g;have r7:=aj r6 g;replace h:=h.belw g;replace j:=j.belw g;replace q:=q.belw g;replace r:=r.belw g;replace u:=u.belw g;replace t:=t.belw g;replace I:=I.belw g;replace O:=O.belw g)
   | (go_at_call 121;(with_reducible refine (fM _ F A' n' c' l' sb ?_ ?_ ?_).mono ?_);(exact j);(omega);(exact P.out.2);rintro e w8 ⟨rfl,f⟩;have N:=aj r7 f;replace h:=h.belw f;replace j:=j.belw f;replace q:=q.belw f;replace r:=r.belw f;replace u:=u.belw f;replace t:=t.belw f;replace I:=I.belw f;replace O:=O.belw f)
   | (go_at_call 140;(with_reducible refine (cZ _ (!sb) A5 n5 c5 (ap (x/y+1)) (sgn true x/sgn sb y) ?_ ?_ ?_).mono ?_);(exact I);(omega);(rw [U.out.1,ah];cases sb <;> rfl);rintro e w9 ⟨X,n8,V,rfl,J,G⟩;have r9:=aj N G;replace h:=h.belw G;replace j:=j.belw G;replace q:=q.belw G;replace r:=r.belw G;replace u:=u.belw G;replace t:=t.belw G;replace I:=I.belw G;replace O:=O.belw G)
   | (go_at_call 140;(with_reducible refine (cZ _ false A6 n6 c6 (ap (y-x%y)) (sgn true x%sgn sb y) ?_ ?_ ?_).mono ?_);(exact O);(omega);(rw [U.out.2,ah];rfl);rintro e bn ⟨W,n9,S,rfl,M,B⟩;have R:=aj r9 B;replace h:=h.belw B;replace j:=j.belw B;replace q:=q.belw B;replace r:=r.belw B;replace u:=u.belw B;replace t:=t.belw B;replace I:=I.belw B;replace O:=O.belw B;replace J:=J.belw B;obtain ⟨⟨sc,E⟩,C,sz⟩:=ba.of (by omega) a D R))
 clear o;go_wp2_with fail;refine bodyPost_ret (v:=.tuple #[.agg #[.bool _,.slice X n8 V],.agg #[.bool _,.slice W n9 S],.nilIface]) (by simp [results,Tryz.results139,go_sem,C];first | rfl | exact ⟨rfl,rfl⟩) rfl ?_;have Z:=x2.below R;have T:=x3.below R;refine ⟨X,n8,V,W,n9,S,rfl,?_,?_,?_⟩
 ·exact J.keep (kp4 Z T (by decide) (by decide) _ _ _ _ _ _ _ _)
 ·exact M.keep (kp4 Z T (by decide) (by decide) _ _ _ _ _ _ _ _)
 exact ((((b0.trans (R.mono b0.size)).setCell (by dsimp only;omega) _).setCell (by dsimp only;omega) _).setCell (by dsimp only;omega) _).setCell (by dsimp only;omega) _

theorem jI (w:World) (g:Nat) (h:g=w.heap.size) (b a:Int) (v:Nat) (f:b=((v%4294967296:Nat):Int)) (d:a=((v/4294967296:Nat):Int)) (i:v<18446744073709551616) :
 Wd (w.alloc (.cells #[.int .u32 b,.int .u32 a] 173)) (some ⟨g,0,none⟩) 2 2 [v%4294967296,v/4294967296]:=by
 subst f d h;exact (Blk.new w 173 (cellsOf [v%4294967296,v/4294967296])).wdN (by intro y c;simp at c;omega) rfl
theorem FE (w:World) (i:Int) (o:-9223372036854775808<=i) (h:i<9223372036854775808) :
 Calls Tryz.prog 122 #[.int .i64 i] w (gP w (wh i)):=by
 obtain ⟨v,p⟩:∃ v:Nat,v=i.natAbs:=⟨_,rfl⟩;have b:v<18446744073709551616:=by omega
 have a:val [v%4294967296,v/4294967296]=v:=by simp [val];omega
 have q:=Qh a;by_cases c:i<0
 ·have t:IntKind.u64.wrap i=i+18446744073709551616:=by unfold IntKind.wrap;simp [IntKind.bits,IntKind.signed];omega
  have z:IntKind.u64.wrap (-(i+18446744073709551616))=(v:Int):=by unfold IntKind.wrap;simp [IntKind.bits,IntKind.signed];omega
  have u:decide (i<0)=true:=by simp;omega
  have y:IntKind.u32.wrap (v:Int)=((v%4294967296:Nat):Int):=by unfold IntKind.wrap;simp [IntKind.bits,IntKind.signed]
  have r:IntKind.u32.wrap ((v:Int)/4294967296)=((v/4294967296:Nat):Int):=by unfold IntKind.wrap;simp [IntKind.bits,IntKind.signed];omega
  have n:=Qh (show sgn true v=i by simp [sgn];omega);have f:=Qh b;clear p a b c o h;go_in;go_wp2_with (go_at_call 140;refine (cZ _ true (some ⟨w.heap.size+1,0,none⟩) 2 2 [v%4294967296,v/4294967296] i ?_ ?_ ?_).mono ?_;(exact jI (w.alloc _) _ (by simp) _ _ v (by simp) (by simp) f.out);(omega);(rw [q.out];exact n.out);rintro e j ⟨l,m,c1,rfl,h,hb⟩;obtain ⟨k,s⟩:=cl hb);have d:j.cell? ⟨w.heap.size,0,none⟩=some (.bool false):=(k w.heap.size 0 (by simp;omega)).trans (by simp [go_sem]);have g:j.cell? ⟨w.heap.size,1,none⟩=some (.slice none 0 0):=(k w.heap.size 1 (by simp;omega)).trans (by simp [go_sem]);refine bodyPost_ret (v:=.agg #[.bool _,.slice l m c1]) (by simp [results,Tryz.results122,go_sem,d,g];rfl) rfl ?_;have x:=((bG w #[.bool false,.slice none 0 0] 134 rfl).alloc _).below hb;refine gR ?_ ?_ ?_
  ·rfl
  ·exact h.keep (kp2 x (by decide) _ _ _ _)
  exact ((((((Below.refl _ _).alloc Qr _).alloc (by simp) _).trans (hb.mono (by simp;omega)))).setCell (by dsimp only;omega) _).setCell (by dsimp only;omega) _
 have t:IntKind.u64.wrap i=(v:Int):=by unfold IntKind.wrap;simp [IntKind.bits,IntKind.signed];omega
 have u:decide (i<0)=false:=by simp;omega
 have y:IntKind.u32.wrap (v:Int)=((v%4294967296:Nat):Int):=by unfold IntKind.wrap;simp [IntKind.bits,IntKind.signed]
 have r:IntKind.u32.wrap ((v:Int)/4294967296)=((v/4294967296:Nat):Int):=by unfold IntKind.wrap;simp [IntKind.bits,IntKind.signed];omega
 have n:=Qh (show sgn false v=i by simp [sgn];omega);have f:=Qh b;clear p a b c o h;go_in;go_wp2_with (go_at_call 140;refine (cZ _ false (some ⟨w.heap.size+1,0,none⟩) 2 2 [v%4294967296,v/4294967296] i ?_ ?_ ?_).mono ?_;(exact jI (w.alloc _) _ (by simp) _ _ v (by simp) (by simp) f.out);(omega);(rw [q.out];exact n.out);rintro e j ⟨l,m,c1,rfl,h,hb⟩;obtain ⟨k,s⟩:=cl hb);have d:j.cell? ⟨w.heap.size,0,none⟩=some (.bool false):=(k w.heap.size 0 (by simp;omega)).trans (by simp [go_sem]);have g:j.cell? ⟨w.heap.size,1,none⟩=some (.slice none 0 0):=(k w.heap.size 1 (by simp;omega)).trans (by simp [go_sem]);refine bodyPost_ret (v:=.agg #[.bool _,.slice l m c1]) (by simp [results,Tryz.results122,go_sem,d,g];rfl) rfl ?_;have x:=((bG w #[.bool false,.slice none 0 0] 134 rfl).alloc _).below hb;refine gR ?_ ?_ ?_
 ·rfl
 ·exact h.keep (kp2 x (by decide) _ _ _ _)
 exact ((((((Below.refl _ _).alloc Qr _).alloc (by simp) _).trans (hb.mono (by simp;omega)))).setCell (by dsimp only;omega) _).setCell (by dsimp only;omega) _

def IZ (w:World) (b:Bool) (A:Option Addr) (n c:Nat) (z:Int) (k:Nat):Prop:=∃ l,Wd w A n c l/\WD.z ⟨b,l⟩=z/\n<=k
def IV (w:World) (b:Bool) (A:Option Addr) (n c:Nat) (z:Int) (k:Nat):Prop:=b=(wh z).neg/\Wd w A n c (wh z).mag/\n<=k
def QD (w:World) (b:Bool) (A:Option Addr) (n c:Nat) (A':Option Addr) (n' c':Nat) (a:RD) (k:Nat):Prop:=a.neg=b/\Wd w A n c a.num/\Wd w A' n' c' a.den/\n<=k/\n'<=k
def QZ (w:World) (b:Bool) (A:Option Addr) (n c:Nat) (A':Option Addr) (n' c':Nat) (q:Rat) (k:Nat):Prop:=∃ a,QD w b A n c A' n' c' a k/\a.q=q
def QV (w:World) (b:Bool) (A:Option Addr) (n c:Nat) (A':Option Addr) (n' c':Nat) (q:Rat) (k:Nat):Prop:=QD w b A n c A' n' c' (rd q) k
section
variable {w w':World}{b:Bool}{A A':Option Addr}{n c n' c' k j:Nat}{z:Int}{q:Rat}{a:RD}
theorem IV.iz (h:IV w b A n c z k):IZ w b A n c z k:=by
 obtain ⟨rfl,a,d⟩:=h;exact ⟨_,a,Fz z,d⟩
theorem IZ.belw (h:IZ w b A n c z k) (hb:Below w.heap.size w w'):IZ w' b A n c z k:=by
 obtain ⟨l,d,a,f⟩:=h;exact ⟨l,d.belw hb,a,f⟩
theorem IV.belw (h:IV w b A n c z k) (hb:Below w.heap.size w w'):IV w' b A n c z k:=⟨h.1,h.2.1.belw hb,h.2.2⟩
theorem IZ.keep (h:IZ w b A n c z k) (hb:Kp w w'):IZ w' b A n c z k:=by
 obtain ⟨l,d,a,f⟩:=h;exact ⟨l,d.keep hb,a,f⟩
theorem IV.keep (h:IV w b A n c z k) (hb:Kp w w'):IV w' b A n c z k:=⟨h.1,h.2.1.keep hb,h.2.2⟩
theorem IZ.mono (h:IZ w b A n c z k) (a:k<=j):IZ w b A n c z j:=by
 obtain ⟨l,f,d,g⟩:=h;exact ⟨l,f,d,Nat.le_trans g a⟩
theorem IV.mono (h:IV w b A n c z k) (a:k<=j):IV w b A n c z j:=⟨h.1,h.2.1,Nat.le_trans h.2.2 a⟩
theorem QD.belw (h:QD w b A n c A' n' c' a k) (hb:Below w.heap.size w w'):QD w' b A n c A' n' c' a k:=⟨h.1,h.2.1.belw hb,h.2.2.1.belw hb,h.2.2.2⟩
theorem QD.keep (h:QD w b A n c A' n' c' a k) (hb:Kp w w'):QD w' b A n c A' n' c' a k:=⟨h.1,h.2.1.keep hb,h.2.2.1.keep hb,h.2.2.2⟩
theorem QD.mono (h:QD w b A n c A' n' c' a k) (d:k<=j):QD w b A n c A' n' c' a j:=⟨h.1,h.2.1,h.2.2.1,Nat.le_trans h.2.2.2.1 d,Nat.le_trans h.2.2.2.2 d⟩
theorem QD.qz (h:QD w b A n c A' n' c' a k):QZ w b A n c A' n' c' a.q k:=⟨a,h,rfl⟩
theorem QZ.belw (h:QZ w b A n c A' n' c' q k) (hb:Below w.heap.size w w'):QZ w' b A n c A' n' c' q k:=by
 obtain ⟨a,f,d⟩:=h;exact ⟨a,f.belw hb,d⟩
theorem QZ.keep (h:QZ w b A n c A' n' c' q k) (hb:Kp w w'):QZ w' b A n c A' n' c' q k:=by
 obtain ⟨a,f,d⟩:=h;exact ⟨a,f.keep hb,d⟩
theorem QZ.mono (h:QZ w b A n c A' n' c' q k) (d:k<=j):QZ w b A n c A' n' c' q j:=by
 obtain ⟨a,g,f⟩:=h;exact ⟨a,g.mono d,f⟩
theorem QV.qz (h:QV w b A n c A' n' c' q k):QZ w b A n c A' n' c' q k:=⟨_,h,xA q⟩
theorem QV.belw (h:QV w b A n c A' n' c' q k) (hb:Below w.heap.size w w'):QV w' b A n c A' n' c' q k:=QD.belw h hb
theorem QV.keep (h:QV w b A n c A' n' c' q k) (hb:Kp w w'):QV w' b A n c A' n' c' q k:=QD.keep h hb
theorem QV.mono (h:QV w b A n c A' n' c' q k) (a:k<=j):QV w b A n c A' n' c' q j:=QD.mono h a
theorem WD.z_lt {l:List Nat}(h:Wd w A n c l) (a:n<=k):(WD.z ⟨b,l⟩).natAbs<4294967296^k:=by
 have f:=h.vlt a;have d:=gN k;unfold WD.z;split
 ·simp only;split <;> omega
 simpa using d
theorem IZ.lt (h:IZ w b A n c z k):z.natAbs<4294967296^k:=by
 obtain ⟨l,a,rfl,d⟩:=h;exact WD.z_lt a d
theorem QD.sz (h:QD w b A n c A' n' c' a k) (i:0<k):Sz a.q k:=by
 have f:=RD.q_num h.2.1.1 h.2.2.1.1;have g:=RD.q_den h.2.1.1 h.2.2.1.1;have l:=h.2.1.vlt h.2.2.2.1;have j:=h.2.2.1.vlt h.2.2.2.2;have m:1<4294967296^k:=Nat.one_lt_pow (by omega) (by omega);unfold Sz;rw [f,g];refine ⟨?_,?_⟩
 ·unfold RD.n
  split
  ·split <;> omega
  simp;omega
 unfold RD.d;split <;> omega
theorem QZ.sz (h:QZ w b A n c A' n' c' q k) (d:0<k):Sz q k:=by
 obtain ⟨a,f,rfl⟩:=h;exact f.sz d
theorem QV.mk_ (a:Wd w A n c (rd q).num) (d:Wd w A' n' c' (rd q).den) (hb:(rd q).neg=b) (f:Sz q k):QV w b A n c A' n' c' q k:=by
 refine ⟨hb,a,d,?_,?_⟩
 ·rw [a.2.1];exact ay f.1
 rw [d.2.1];unfold rd;simp only;split
 ·simp
 exact ay f.2
theorem IV.mk_ (h:Wd w A n c (wh z).mag) (hb:b=(wh z).neg) (a:z.natAbs<4294967296^k):IV w b A n c z k :=
 ⟨hb,h,by rw [h.2.1];exact ay a⟩
end
def jj (w:World) (z:Int) (k:Nat) (e:Ending) (w':World):Prop:=∃ b A n c,e=.returned (.agg #[.bool b,.slice A n c])/\IV w' b A n c z k/\Below w.heap.size w w'
def pw (w:World) (q:Rat) (k:Nat) (e:Ending) (w':World):Prop:=∃ b A n c A' n' c',e=.returned (.agg #[.bool b,.slice A n c,.slice A' n' c'])/\QV w' b A n c A' n' c' q k/\Below w.heap.size w w'
def oo (w:World) (z z':Int) (k:Nat) (e:Ending) (w':World):Prop:=∃ b A n c b' A' n' c',e=.returned (.tuple #[.agg #[.bool b,.slice A n c],.agg #[.bool b',.slice A' n' c']])/\IV w' b A n c z k/\IV w' b' A' n' c' z' k/\Below w.heap.size w w'
def Cv (w:World) (v:Value) (z z':Int) (k:Nat) (e:Ending) (w':World):Prop:=∃ b A n c b' A' n' c',e=.returned (.tuple #[.agg #[.bool b,.slice A n c],.agg #[.bool b',.slice A' n' c'],v])/\IV w' b A n c z k/\IV w' b' A' n' c' z' k/\Below w.heap.size w w'
def jJ (w:World) (v:Value) (q:Rat) (k:Nat) (e:Ending) (w':World):Prop:=∃ b A n c A' n' c',e=.returned (.tuple #[.agg #[.bool b,.slice A n c,.slice A' n' c'],v])/\QV w' b A n c A' n' c' q k/\Below w.heap.size w w'
theorem sY {a b K:Nat}(c:a<K) (hb:b<K):Nat.gcd a b<K:=by
 rcases Nat.eq_zero_or_pos a with rfl | h
 ·simpa using hb
 exact Nat.lt_of_le_of_lt (Nat.gcd_le_left _ h) c
theorem gP.i {w a:World}{z:Int}{k:Nat}{e:Ending}(h:gP w (wh z) e a) (d:z.natAbs<4294967296^k):jj w z k e a:=by
 obtain ⟨A,n,c,rfl,f,b⟩:=h;exact ⟨_,A,n,c,rfl,IV.mk_ f rfl d,b⟩
section
variable (w:World) (b A n c z k) (h:IZ w b A n c z k) (b' A' n' c' z' k') (h':IZ w b' A' n' c' z' k')
include h
theorem ud (d:k<=1000000000):Calls Tryz.prog 115 #[.agg #[.bool b,.slice A n c]] w (jj w (-z) k):=by
 have g:=h.lt;obtain ⟨l,a,rfl,f⟩:=h;exact (Ev w b A n c l a (by omega)).mono fun _ _ r=>r.i (by omega)
theorem C6 (d:k<=1000000000):Calls Tryz.prog 118 #[.agg #[.bool b,.slice A n c]] w (ax w (.int .i64 z.sign)):=by
 obtain ⟨l,a,rfl,f⟩:=h;exact xS w b A n c l a (by omega)
include h'
theorem EG (o:k+k'<=1000000000):Calls Tryz.prog 99 #[.agg #[.bool b,.slice A n c],.agg #[.bool b',.slice A' n' c']] w (jj w (z+z') (k+k'+1)):=by
 have m:=h.mono (Nat.le_add_right k k') |>.lt
 have a:=h'.mono (Nat.le_add_left k' k) |>.lt
 obtain ⟨l,g,rfl,p⟩:=h;obtain ⟨f,d,rfl,j⟩:=h';exact (Eu w b A n c l g (by omega) b' A' n' c' f d (by omega)).mono fun _ _ r=>r.i (fv m a)
theorem qS (o:k+k'<=1000000000):Calls Tryz.prog 100 #[.agg #[.bool b,.slice A n c],.agg #[.bool b',.slice A' n' c']] w (jj w (z*z') (k+k')):=by
 have m:=h.lt;have a:=h'.lt;obtain ⟨l,g,rfl,p⟩:=h;obtain ⟨f,d,rfl,j⟩:=h';exact (Ew w b A n c l g (by omega) b' A' n' c' f d (by omega)).mono fun _ _ r=>r.i (cP m a)
theorem ye (i:k+k'<=1000000000):Calls Tryz.prog 83 #[.agg #[.bool b,.slice A n c],.agg #[.bool b',.slice A' n' c']] w (ax w (.int .i64 (da z z'))):=by
 obtain ⟨l,d,rfl,j⟩:=h;obtain ⟨g,a,rfl,f⟩:=h';exact Ex w b A n c l d (by omega) b' A' n' c' g a (by omega)
theorem Cw (o:k+k'<=1000000000):Calls Tryz.prog 137 #[.agg #[.bool b,.slice A n c],.agg #[.bool b',.slice A' n' c']] w (jj w (Nat.gcd z.natAbs z'.natAbs:Nat) (k+k')):=by
 have m:=h.mono (Nat.le_add_right k k') |>.lt
 have a:=h'.mono (Nat.le_add_left k' k) |>.lt
 obtain ⟨l,g,rfl,p⟩:=h;obtain ⟨f,d,rfl,j⟩:=h';exact (ED w b A n c l g (by omega) b' A' n' c' f d (by omega)).mono fun _ _ r=>r.i (by simpa using sY m a)
theorem Cx (y:k+k'<=1000000000) (a:z'≠0):Calls Tryz.prog 139 #[.agg #[.bool b,.slice A n c],.agg #[.bool b',.slice A' n' c']] w (Cv w .nilIface (z/z') (z%z') (k+k')):=by
 have v:=h.mono (Nat.le_add_right k k') |>.lt
 have t:=h'.mono (Nat.le_add_left k' k) |>.lt
 obtain ⟨l,s,rfl,x⟩:=h;obtain ⟨q,d,rfl,i⟩:=h';refine (EF w b A n c l s (by omega) b' A' n' c' q d (by omega) a).mono fun _ _ r=>?_
 obtain ⟨m,p,c1,o,u,c2,rfl,g,j,f⟩:=r;refine ⟨_,m,p,c1,_,o,u,c2,rfl,IV.mk_ g rfl ?_,IV.mk_ j rfl ?_,f⟩
 ·exact Nat.lt_of_le_of_lt (Int.natAbs_ediv_le_natAbs _ _) v
 have B:=Int.emod_nonneg (WD.z ⟨b,l⟩) a;have C:=Int.emod_lt (WD.z ⟨b,l⟩) a;omega
end
theorem FF (w:World) (i:Int) (k:Nat) (b:-9223372036854775808<=i) (a:i<9223372036854775808) (c:i.natAbs<4294967296^k):Calls Tryz.prog 122 #[.int .i64 i] w (jj w i k) :=
 (FE w i b a).mono fun _ _ r=>r.i c
theorem EH (w:World) (i:Int) (b:-4294967296<i) (a:i<4294967296):Calls Tryz.prog 122 #[.int .i64 i] w (jj w i 1):=FF w i 1 (by omega) (by omega) (by omega)
theorem IZ.zero (w:World):IZ w false none 0 0 0 0:=⟨[],Wd.nil_ w,by simp [WD.z,WD.ok,val],Qr⟩
theorem QZ.zero (w:World):QZ w false none 0 0 none 0 0 0 1:=⟨⟨false,[],[]⟩,⟨rfl,Wd.nil_ w,Wd.nil_ w,by omega,by omega⟩,by have:=xA 0;rw [ph] at this;exact this⟩
theorem QV.zero (w:World) (k:Nat):QV w false none 0 0 none 0 0 0 k:=by
 unfold QV;rw [ph];exact ⟨rfl,Wd.nil_ w,Wd.nil_ w,by omega,by omega⟩
theorem IV.zero (w:World) (k:Nat):IV w false none 0 0 0 k:=⟨rfl,by have:(wh 0).mag=[]:=az;rw [this];exact Wd.nil_ w,by omega⟩
theorem ak (w:World) (c:Array Value) (t:TypeId) {g:Nat}(h:g=w.heap.size):Blk (w.alloc (.cells c t)) g t c:=by subst h;exact Blk.new w t c
theorem Blk.set_at {w:World}{g:Nat}{t:TypeId}{cs:Array Value}(h:Blk w g t cs) (i:Nat) (v:Value) (a:Array Value) (e:cs.setIfInBounds i v=a):Blk (w.setCell ⟨g,i,none⟩ v) g t a:=by subst e;exact h.set_ i v
theorem Blk.box {w:World}{g:Nat}{t:TypeId}{c:Array Value}(h:Blk w g t c) (a:noU c=true:=by rfl):Box w g t:=⟨c,_,h,a⟩
abbrev SeesX (G g:Nat) (W0 W:World):Prop:=((∀ b o,b<G->b≠g->W.cell? ⟨b,o,none⟩=W0.cell? ⟨b,o,none⟩)/\(∀ b o,b<G->W.frozen? ⟨b,o,none⟩=W0.frozen? ⟨b,o,none⟩))/\G<=W.heap.size
theorem SeesX.of {G g:Nat}{c W:World}(h:G<=c.heap.size) (hb:Below c.heap.size c W):SeesX G g c W :=
 ⟨⟨fun b o a _=>(cl hb).1 b o (Nat.lt_of_lt_of_le a h),fun b o a=>(cl hb).2 b o (Nat.lt_of_lt_of_le a h)⟩,Nat.le_trans h hb.size⟩
theorem SeesX.set {G g:Nat}{d W:World}(h:SeesX G g d W) {i:Nat}{u:Value}:SeesX G g d (W.setCell ⟨g,i,none⟩ u):=by
 refine ⟨⟨fun b o a c=>?_,fun b o a=>?_⟩,?_⟩
 ·rw [<- h.1.1 b o a c];unfold World.cell?;rw [Below.heap_setCell _ _ _ b c]
 ·rw [<- h.1.2 b o a];exact World.frozen?_setCell ..
 have:=h.2;simp [World.setCell];exact this
theorem Cy (i:Int):Rat.divInt i 1=(i:Rat):=by have:=vh (i:Rat);simpa using this.symm
theorem sign3 (z:Int):z=0\/z.sign=1\/z.sign=-1:=by
 rcases Int.lt_trichotomy z 0 with h | h | h
 ·exact .inr (.inr (Int.sign_eq_neg_one_of_neg h))
 ·exact .inl h
 exact .inr (.inl (Int.sign_eq_one_of_pos h))
theorem qT {z:Int}(h:z.sign=1):0<z:=Int.sign_eq_one_iff_pos.1 h
theorem oq {z:Int}(h:z.sign=-1):0 < -z:=by have:=Int.sign_eq_neg_one_iff_neg.1 h;omega
theorem yf {a b:Int}(h:0<b):((Nat.gcd a.natAbs b.natAbs:Nat):Int)≠0:=by
 have:0<Nat.gcd a.natAbs b.natAbs:=Nat.gcd_pos_of_pos_right _ (by omega);omega
theorem mt {a:Int}(g:Nat) (h:0<a):(wh (a/(g:Int))).mag=ap (a.natAbs/g):=by
 have e:(a/(g:Int))=((a.natAbs/g:Nat):Int):=by
  rw [Int.natCast_ediv,Int.natAbs_of_nonneg (by omega)]
 rw [e];rfl
theorem yg {z d:Int}{q:Rat}(c:z.sign=1) (hd:0<d) (b:Rat.divInt z d=q) :
 (rd q).num=(wh (z/((Nat.gcd z.natAbs d.natAbs:Nat):Int))).mag/\(rd q).den=(wh (d/((Nat.gcd z.natAbs d.natAbs:Nat):Int))).mag/\(rd q).neg=false:=by
 have a:=qT c;rw [<- b,kK (by omega) hd,mt _ a,mt _ hd];exact ⟨rfl,rfl,by simp;omega⟩
theorem yh {z d:Int}{q:Rat}(c:z.sign=-1) (hd:0<d) (b:Rat.divInt z d=q) :
 (rd q).num=(wh (-z/((Nat.gcd z.natAbs d.natAbs:Nat):Int))).mag/\(rd q).den=(wh (d/((Nat.gcd z.natAbs d.natAbs:Nat):Int))).mag/\(rd q).neg=true:=by
 have a:=oq c;rw [<- b,kK (by omega) hd,mt _ a,mt _ hd,Int.natAbs_neg];exact ⟨rfl,rfl,by simp;omega⟩
theorem gS (w:World) (b A n c z k) (h:IZ w b A n c z k) (s:Int) (d:z.sign=s) (a:k<=1000000000):Calls Tryz.prog 118 #[.agg #[.bool b,.slice A n c]] w (ax w (.int .i64 s)):=by
 subst d;exact C6 w b A n c z k h a
theorem cQ {P:Program}{c:Code}{Q:Exit->Act->World->Prop}{a:Act}{w:World}(h:∀ w6,w6=w->Code.wp P c Q a w6):Code.wp P c Q a w:=h w rfl
section
variable {W w w':World}{g gs t t0 t1 t2:Nat}{c0 c1 c2:Array Value}{a0 a1 a2:Value}
theorem Blk.v2 (h:Blk w g t #[a0,a1]):(w.cell? ⟨g,0,none⟩=some a0/\w.cell? ⟨g,1,none⟩=some a1)/\(w.frozen? ⟨g,0,none⟩=false/\w.frozen? ⟨g,1,none⟩=false)/\g<w.heap.size:=⟨h.c2,h.f2,h.lt⟩
theorem Blk.v3 (h:Blk w g t #[a0,a1,a2]):(w.cell? ⟨g,0,none⟩=some a0/\w.cell? ⟨g,1,none⟩=some a1/\w.cell? ⟨g,2,none⟩=some a2)/\(w.frozen? ⟨g,0,none⟩=false/\w.frozen? ⟨g,1,none⟩=false/\w.frozen? ⟨g,2,none⟩=false)/\g<w.heap.size:=⟨h.c3,h.f3,h.lt⟩
theorem Blk.k2 (h:Blk w g t #[a0,a1]) (b:KT t=false) (a c:Value) (d:noU #[a0,a1]=true:=by rfl) (f:sL a=true:=by rfl):Kp w ((w.setCell ⟨g,0,none⟩ a).setCell ⟨g,1,none⟩ c):=((Kp.refl w).sb (g) 0 (h.box d) b a).sb (g) 1 ((h.box d).set ⟨g,0,none⟩ a f) b c
theorem Blk.k3 (h:Blk w g t #[a0,a1,a2]) (c:KT t=false) (a b f:Value) (d:noU #[a0,a1,a2]=true:=by rfl) (i:sL a=true:=by rfl) (j:sL b=true:=by rfl):Kp w (((w.setCell ⟨g,0,none⟩ a).setCell ⟨g,1,none⟩ b).setCell ⟨g,2,none⟩ f):=(((Kp.refl w).sb (g) 0 (h.box d) c a).sb (g) 1 ((h.box d).set ⟨g,0,none⟩ a i) c b).sb (g) 2 (((h.box d).set ⟨g,0,none⟩ a i).set ⟨g,1,none⟩ b j) c f
structure B3 (W:World) (gs t0:Nat) (c0:Array Value) (t1:Nat) (c1:Array Value) (t2:Nat) (c2:Array Value) (w:World):Prop where
  s:Blk w gs t0 c0
  t:Blk w (gs+1) t1 c1
  r:Blk w (gs+1+1) t2 c2
  q:Below gs W w
theorem B3.call (h:B3 W gs t0 c0 t1 c1 t2 c2 w) (hb:Below w.heap.size w w'):B3 W gs t0 c0 t1 c1 t2 c2 w':=⟨h.s.below hb h.s.lt,h.t.below hb h.t.lt,h.r.below hb h.r.lt,h.q.trans (hb.mono (by have:=h.s.lt;omega))⟩
theorem B3.p0 (h:B3 W gs t0 #[a0,a1] t1 c1 t2 c2 w) (a b:Value):B3 W gs t0 #[a,b] t1 c1 t2 c2 ((w.setCell ⟨gs,0,none⟩ a).setCell ⟨gs,1,none⟩ b) :=
 ⟨(h.s.set_ 0 a).set_ 1 b,(h.t.far (p:=⟨gs,0,none⟩) (by show gs+1≠gs;omega) a).far (p:=⟨gs,1,none⟩) (by show gs+1≠gs;omega) b,(h.r.far (p:=⟨gs,0,none⟩) (by show gs+1+1≠gs;omega) a).far (p:=⟨gs,1,none⟩) (by show gs+1+1≠gs;omega) b,(h.q.setCell (p:=⟨gs,0,none⟩) Qr a).setCell (p:=⟨gs,1,none⟩) Qr b⟩
theorem B3.p1 (h:B3 W gs t0 c0 t1 #[a0,a1] t2 c2 w) (a b:Value):B3 W gs t0 c0 t1 #[a,b] t2 c2 ((w.setCell ⟨gs+1,0,none⟩ a).setCell ⟨gs+1,1,none⟩ b) :=
 ⟨(h.s.far (p:=⟨gs+1,0,none⟩) (by show gs≠gs+1;omega) a).far (p:=⟨gs+1,1,none⟩) (by show gs≠gs+1;omega) b,(h.t.set_ 0 a).set_ 1 b,(h.r.far (p:=⟨gs+1,0,none⟩) (by show gs+1+1≠gs+1;omega) a).far (p:=⟨gs+1,1,none⟩) (by show gs+1+1≠gs+1;omega) b,(h.q.setCell (p:=⟨gs+1,0,none⟩) (by show gs<=gs+1;omega) a).setCell (p:=⟨gs+1,1,none⟩) (by show gs<=gs+1;omega) b⟩
end
def sgz (z z':Int):Int:=if z'<0 then -z else z
theorem qU {z a:Int}{q:Rat}(d:z≠0) (hd:a≠0) (c:Rat.divInt z a=q):0<sgz a a/\Rat.divInt (sgz z a) (sgz a a)=q/\((sgz z a).sign=1\/(sgz z a).sign=-1):=by
 have b:∀ x:Int,x≠0->x.sign=1\/x.sign=-1:=fun x f=>by
  rcases sign3 x with h | h | h
  ·exact absurd h f
  ·exact .inl h
  exact .inr h
 unfold sgz;split
 ·exact ⟨by omega,by rw [mg _ _ hd];exact c,b _ (by omega)⟩
 exact ⟨by omega,c,b _ d⟩
theorem AZ {y d:Int}{q:Rat}(b:y.sign=1\/y.sign=-1) (hd:0<d) (a:Rat.divInt y d=q) :
 (rd q).num=(wh (sgz y y/((Nat.gcd y.natAbs d.natAbs:Nat):Int))).mag/\(rd q).den=(wh (d/((Nat.gcd y.natAbs d.natAbs:Nat):Int))).mag/\(rd q).neg=decide (y.sign<0):=by
 unfold sgz;rcases b with h | h
 ·rw [if_neg (by have:=qT h;omega),h];exact yg h hd a
 rw [if_pos (by have:=oq h;omega),h];exact yh h hd a
theorem yi (w:World) (b A n c z k) (h:IZ w b A n c z k) (b' A' n' c' z' k') (C:IZ w b' A' n' c' z' k') (q:Rat) (K:Nat) (hd:z'≠0) (hq:Rat.divInt z z'=q) (hs:Sz q K) (hk:k+k'<=300000000) :
 Calls Tryz.prog 98 #[.agg #[.bool b,.slice A n c],.agg #[.bool b',.slice A' n' c']] w (pw w q K):=by
 have HD:=Qh hd;have HQ:=Qh hq;have HS:=Qh hs;obtain ⟨s,D⟩:∃ s,z.sign=s:=⟨_,rfl⟩;obtain ⟨s',ab⟩:∃ s,z'.sign=s:=⟨_,rfl⟩;have H1:=Qh D;have H2:=Qh ab;clear hd hq hs D ab;go_in;go_upto_region 1 with fail;refine cQ ?_;intro w1 ac;have a:B3 w w.heap.size 134 #[.bool b,.slice A n c] 134 #[.bool b',.slice A' n' c'] 54 #[.bool false,.slice none 0 0,.slice none 0 0] w1:=by rw [ac];exact ⟨((Blk.new w _ _).alloc _).alloc _,(ak _ _ _ (by simp)).alloc _,ak _ _ _ (by simp),(((ae w).alloc Qr _).alloc (by simp) _).alloc (by simp <;> omega) _⟩
 replace h:=h.belw a.q;replace C:=C.belw a.q;clear ac;have y:=a.s.v2;go_wp2_with fail;(refine (gS _ b A n c z k h s H1.out (by omega)).mono ?_);rintro e w2 ⟨rfl,I⟩;replace a:=a.call I;replace h:=h.belw I;replace C:=C.belw I;clear I y;by_cases hz:z=0
 ·obtain rfl:s=0:=by rw [<- H1.out,hz];rfl
  have a0:q=0:=by rw [<- HQ.out,hz,Rat.zero_divInt]
  subst a0;have y:=a.r.v3;go_wp2_with fail;refine bodyPost_ret (v:=.agg #[.bool false,.slice none 0 0,.slice none 0 0]) (by simp [results,Tryz.results98,go_sem, *] <;> trivial) rfl ?_;exact ⟨false,none,0,0,none,0,0,rfl,QV.zero _ _,((a.q.setCell (p:=⟨w.heap.size+1+1,0,none⟩) (by show w.heap.size<=w.heap.size+1+1;omega) (.bool false)).setCell (p:=⟨w.heap.size+1+1,1,none⟩) (by show w.heap.size<=w.heap.size+1+1;omega) (.slice none 0 0)).setCell (p:=⟨w.heap.size+1+1,2,none⟩) (by show w.heap.size<=w.heap.size+1+1;omega) (.slice none 0 0)⟩
 obtain ⟨hp,ao,al⟩:=qU hz HD.out HQ.out;have HP:=Qh hp;have U:=Qh ao;have ad:=Qh al;have u1:(s==0)=false:=beq_eq_false_iff_ne.2 (by rw [<- H1.out];exact fun e=>hz (Int.sign_eq_zero_iff_zero.1 e));have u2:(s=0)=False:=by simpa using u1
 clear hz hp ao al HQ;have y:=a.t.v2;go_wp2_with fail;(refine (gS _ b' A' n' c' z' k' C s' H2.out (by omega)).mono ?_);rintro e w3 ⟨rfl,J⟩;replace a:=a.call J;replace h:=h.belw J;replace C:=C.belw J;clear J y;obtain ⟨x,N⟩:∃ y,sgz z z'=y:=⟨_,rfl⟩;obtain ⟨X,R⟩:∃ y,sgz z' z'=y:=⟨_,rfl⟩;rw [N] at U ad;rw [R] at HP U;have V:=Qh N;have W:=Qh R;clear N R;go_upto_if 13 with fail;go_cut [] (fun F=>∃ b8 A8 n8 Y Q S n9 P,B3 w w.heap.size 134 #[.bool b8,.slice A8 n8 Y] 134 #[.bool Q,.slice S n9 P] 54 #[.bool false,.slice none 0 0,.slice none 0 0] F/\IZ F b8 A8 n8 Y x k/\IZ F Q S n9 P X k')
 case first =>
  have y:=a.s.v2;have y9:=a.t.v2;by_cases u:z'<0
  ·obtain rfl:s'=-1:=by rw [<- H2.out];exact Int.sign_eq_neg_one_iff_neg.2 u
   obtain rfl:-z=x:=by rw [<- V.out];exact (if_pos u).symm
   obtain rfl:-z'=X:=by rw [<- W.out];exact (if_pos u).symm
   clear u;go_wp2_with fail
   go_region_with (first
    | (go_at_call 115;(with_reducible refine (ud _ b A n c z k ?_ ?_).mono ?_);(first | exact h | exact h.belw (af (ae _) _) | fail);(omega);rintro e w5 ⟨b5,Z,n5,c5,rfl,H,L⟩;replace L:=aj (af (ae _) 1) L;replace C:=C.belw L;replace a:=a.call L;have y:=a.s.v2;have y9:=a.t.v2)
    | (go_at_call 115;(with_reducible refine (ud _ b' A' n' c' z' k' ?_ ?_).mono ?_);(exact C);(omega);rintro e w6 ⟨b6,A6,n6,c6,rfl,h6,aC⟩;replace H:=H.belw aC;replace a:=a.call aC;have y:=a.s.v2;have y9:=a.t.v2))
   all_goals
    go_wp2_with fail;go_meet;exact ⟨_,_,_,_,_,_,_,_,(a.p0 _ _).p1 _ _,H.iz.keep ((a.s.k2 (by decide) _ _).trans ((a.p0 _ _).t.k2 (by decide) _ _)),h6.iz.keep ((a.s.k2 (by decide) _ _).trans ((a.p0 _ _).t.k2 (by decide) _ _))⟩
  have hp:0<z':=by have:=HD.out;omega
  obtain rfl:s'=1:=by rw [<- H2.out];exact Int.sign_eq_one_iff_pos.2 hp
  obtain rfl:z=x:=by rw [<- V.out];exact (if_neg u).symm
  obtain rfl:z'=X:=by rw [<- W.out];exact (if_neg u).symm
  clear u hp;go_wp2_with fail;go_meet;exact ⟨_,_,_,_,_,_,_,_,a,h,C⟩
 case rest =>
  clear a h C V W;obtain ⟨b8,A8,n8,Y,Q,S,n9,P,a,B,f⟩:=hcut;rename World=>w7;have y:=And.intro a.s.v2 a.t.v2;go_wp2_with fail;(refine (Cw _ b8 A8 n8 Y x k B Q S n9 P X k' f (by omega)).mono ?_);rintro e w8 ⟨b3,A3,n3,c3,rfl,i,G⟩;replace a:=a.call G;replace B:=B.belw G;replace f:=f.belw G;obtain ⟨g,hg⟩:∃ g:Int,((Nat.gcd x.natAbs X.natAbs:Nat):Int)=g:=⟨_,rfl⟩;have HG:=Qh hg;rw [hg] at i;clear G y hg;go_upto_region 6 with fail;refine cQ ?_;intro w9 O;have q9:Below w8.heap.size w8 w9:=by rw [O];exact (ae w8).alloc Qr _
  have o:Blk w9 w8.heap.size 134 #[.bool b3,.slice A3 n3 c3]:=by rw [O];exact Blk.new w8 _ _
  replace B:=B.belw q9;replace f:=f.belw q9;replace i:=i.belw q9;have l9:=a.r.lt;replace a:=a.call q9;obtain ⟨gg,aS⟩:∃ g,w8.heap.size=g:=⟨_,rfl⟩;rw [aS] at o l9 ⊢;clear O q9 aS;obtain ⟨s1,D⟩:∃ s,x.sign=s:=⟨_,rfl⟩;have H3:=Qh D;clear D;have y:=a.s.v2;go_wp2_with fail;(refine (gS _ b8 A8 n8 Y x k B s1 H3.out (by omega)).mono ?_);rintro e a5 ⟨rfl,d⟩;replace a:=a.call d;replace B:=B.belw d;replace f:=f.belw d;replace i:=i.belw d;replace o:=o.b d;clear d y;obtain ⟨y3,aT⟩:∃ y,sgz x x=y:=⟨_,rfl⟩;have T:=Qh aT;clear aT;go_upto_if 24 with fail;obtain ⟨m,hm⟩:∃ m,decide (s1<0)=m:=⟨_,rfl⟩;rw [hm];have HM:=Qh hm;clear hm;go_cut [] (fun F=>∃ b4 A4 n4 c4,B3 w w.heap.size 134 #[.bool b4,.slice A4 n4 c4] 134 #[.bool Q,.slice S n9 P] 54 #[.bool false,.slice none 0 0,.slice none 0 0] F/\Blk F gg 134 #[.bool b3,.slice A3 n3 c3]/\IZ F b4 A4 n4 c4 y3 k/\IZ F Q S n9 P X k'/\IZ F b3 A3 n3 c3 g (k+k'))
  case first =>
   have y:=a.s.v2;by_cases u:x<0
   ·obtain rfl:m=true:=by rw [<- HM.out,<- H3.out,Int.sign_eq_neg_one_iff_neg.2 u];rfl
    obtain rfl:-x=y3:=by rw [<- T.out];exact (if_pos u).symm
    clear u;go_wp2_with fail;(refine (ud _ b8 A8 n8 Y x k B (by omega)).mono ?_);rintro e a2 ⟨b4,A4,n4,c4,rfl,h4,l⟩;replace a:=a.call l;replace o:=o.b l;replace f:=f.belw l;replace i:=i.belw l;have y:=a.s.v2;go_wp2_with fail;go_meet;have kp:=a.s.k2 (by decide) (.bool b4) (.slice A4 n4 c4);exact ⟨_,_,_,_,a.p0 _ _,(o.far (p:=⟨w.heap.size,0,none⟩) (by show gg≠w.heap.size;omega) _).far (p:=⟨w.heap.size,1,none⟩) (by show gg≠w.heap.size;omega) _,h4.iz.keep kp,f.keep kp,i.iz.keep kp⟩
   obtain rfl:x=y3:=by rw [<- T.out];exact (if_neg u).symm
   obtain rfl:m=false:=by rw [<- HM.out,<- H3.out];exact decide_eq_false (by have:=Int.sign_nonneg_iff.2 (Int.not_lt.1 u);omega)
   clear u;go_wp2_with fail;go_meet;exact ⟨_,_,_,_,a,o,B,f,i.iz⟩
  case rest =>
   clear a o B f i;obtain ⟨b4,A4,n4,c4,a,o,B,f,i⟩:=hcut;rename World=>w12;have g0:g≠0:=by rw [<- HG.out];exact yf HP.out
   have y:=And.intro a.s.v2 o.v2;go_wp2_with fail;(refine (Cx _ b4 A4 n4 c4 y3 k B b3 A3 n3 c3 g (k+k') i (by omega) g0).mono ?_);rintro e a3 ⟨b5,Z,n5,c5,_,_,_,_,rfl,H,_,j⟩;replace a:=a.call j;replace o:=o.b j;replace f:=f.belw j;replace i:=i.belw j;clear j y;have y:=a.s.v2;go_upto_region 10 with fail;refine cQ ?_;intro a4 M;have kp:=a.s.k2 (by decide) (.bool b5) (.slice Z n5 c5);have k2:=a.p0 (.bool b5) (.slice Z n5 c5);have an:=(o.far (p:=⟨w.heap.size,0,none⟩) (by show gg≠w.heap.size;omega) (.bool b5)).far (p:=⟨w.heap.size,1,none⟩) (by show gg≠w.heap.size;omega) (.slice Z n5 c5);rw [<- M] at kp k2 an;replace H:=H.keep kp;replace f:=f.keep kp;replace i:=i.keep kp;clear M kp a o y;have y:=And.intro k2.t.v2 an.v2;go_wp2_with fail;(refine (Cx _ Q S n9 P X k' f b3 A3 n3 c3 g (k+k') i (by omega) g0).mono ?_);rintro e a1 ⟨b6,A6,n6,c6,_,_,_,_,rfl,h6,_,E⟩;replace k2:=k2.call E;replace H:=H.belw E;clear E y;have y:=And.intro k2.s.v2 (And.intro k2.t.v2 k2.r.v3);go_wp2_with fail;refine bodyPost_ret (v:=.agg #[.bool m,.slice Z n5 c5,.slice A6 n6 c6]) (by simp [results,Tryz.results98,go_sem, *] <;> trivial) rfl ?_;clear y;have k3:=k2.p1 (.bool b6) (.slice A6 n6 c6);have kp:=(k2.t.k2 (by decide) (.bool b6) (.slice A6 n6 c6)).trans (k3.r.k3 (by decide) (.bool m) (.slice Z n5 c5) (.slice A6 n6 c6));obtain ⟨e1,e2,e3⟩:=AZ ad.out HP.out U.out;rw [HG.out] at e1 e2;rw [T.out] at e1;rw [H3.out,HM.out] at e3;exact ⟨_,_,_,_,_,_,_,rfl,QV.mk_ (by rw [e1];exact H.2.1.keep kp) (by rw [e2];exact h6.2.1.keep kp) e3 HS.out,((k3.q.setCell (p:=⟨w.heap.size+1+1,0,none⟩) (by show w.heap.size<=w.heap.size+1+1;omega) _).setCell (p:=⟨w.heap.size+1+1,1,none⟩) (by show w.heap.size<=w.heap.size+1+1;omega) _).setCell (p:=⟨w.heap.size+1+1,2,none⟩) (by show w.heap.size<=w.heap.size+1+1;omega) _⟩

section
variable {w:World}{b:Bool}{A:Option Addr}{n c:Nat}{D:Option Addr}{m e:Nat}{a:RD}{k:Nat}(h:QD w b A n c D m e a k)
include h
theorem Cz (c:n=0) (f:m=0):a.ok=!b:=by
 have g:a.num=[]:=List.eq_nil_of_length_eq_zero (by rw [<- h.2.1.2.1,c]);have d:a.den=[]:=List.eq_nil_of_length_eq_zero (by rw [<- h.2.2.1.2.1,f]);unfold RD.ok;rw [if_pos ⟨g,d⟩,h.1]
theorem QD.num_ne (b:0<n):a.num≠[]:=by intro e;have:=h.2.1.2.1;rw [e] at this;simp at this;omega
theorem QD.den_ne_ (b:0<m):a.den≠[]:=by intro e;have:=h.2.2.1.2.1;rw [e] at this;simp at this;omega
theorem EI (b:n=0) (c:0<m):a.ok=false:=by
 have d:a.num=[]:=List.eq_nil_of_length_eq_zero (by rw [<- h.2.1.2.1,b]);unfold RD.ok;rw [if_neg (by intro x;exact h.den_ne_ c x.2)];simp [d]
theorem EJ (b:0<n) (d:m=0):a.ok=false:=by
 have c:a.den=[]:=List.eq_nil_of_length_eq_zero (by rw [<- h.2.2.1.2.1,d]);unfold RD.ok;rw [if_neg (by intro x;exact h.num_ne b x.1)];simp [c]
omit h in
theorem yj {l:List Nat}(a:l≠[]):WD.ok ⟨false,l⟩=last0 l:=by unfold WD.ok last0;simp [a]
theorem C8 (f:0<n) (d:0<m):a.ok=(WD.ok ⟨false,a.num⟩&&WD.ok ⟨false,a.den⟩&&Nat.gcd (val a.num) (val a.den)==1):=by
 have b:=h.num_ne f;have c:=h.den_ne_ d;unfold RD.ok;have f1:(a.num != [])=true:=bne_iff_ne.2 b;have f2:(a.den != [])=true:=bne_iff_ne.2 c;rw [if_neg (by intro x;exact b x.1),yj b,yj c,f1,f2];rfl
theorem QD.num_z (b:WD.ok ⟨false,a.num⟩=true):IZ w false A n c (val a.num:Int) k:=⟨_,h.2.1,by simp [WD.z,b],h.2.2.2.1⟩
theorem QD.den_z (b:WD.ok ⟨false,a.den⟩=true):IZ w false D m e (val a.den:Int) k:=⟨_,h.2.2.1,by simp [WD.z,b],h.2.2.2.2⟩
end
theorem uf {x y:Nat}{s:Int}{r:Bool}(d:da ((Nat.gcd ((x:Int)).natAbs ((y:Int)).natAbs:Nat)) 1=s) (b:r=(Nat.gcd x y==1)):(s==0)=r:=by
 subst d b;simp only [Int.natAbs_natCast];generalize Nat.gcd x y=g;unfold da;by_cases h1:g=1
 ·subst h1;rfl
 by_cases h2:g<1
 ·have:g=0:=by omega
  subst this;rfl
 have c:¬ ((g:Int)<1):=by omega
 have a:¬ ((g:Int)=1):=by omega
 simp [h1,c,a]
theorem ot (w:World) (b:Bool) (A:Option Addr) (n c:Nat) (v:Bool) (l:List Nat) (h:Wd w A n c l) (a:WD.ok ⟨b,l⟩=v) (d:n<=1000000000) :
 Calls Tryz.prog 136 #[.agg #[.bool b,.slice A n c]] w (ax w (.bool v)):=by subst a;exact jE w b A n c l h (by omega)
theorem A0 (w:World) (b A n c z k) (h:IZ w b A n c z k) (b' A' n' c' z' k') (d:IZ w b' A' n' c' z' k') (s:Int) (f:da z z'=s) (a:k+k'<=1000000000) :
 Calls Tryz.prog 83 #[.agg #[.bool b,.slice A n c],.agg #[.bool b',.slice A' n' c']] w (ax w (.int .i64 s)):=by subst f;exact ye w b A n c z k h b' A' n' c' z' k' d a
theorem ug (w:World)  :
 Calls Tryz.prog 84 #[] w (jj w 1 1):=by
 go_in;go_wp2_with fail;refine (EH _ (1) ?_ ?_).mono ?_;(omega);(omega);rintro e i ⟨c,d,f,c1,rfl,l,b⟩;have q1:=b.q1;have a:Blk i w.heap.size 134 #[.bool false,.slice none 0 0]:=(ak _ _ _ (by simp)).below b (by simp);have g:=(ae w).trans (q1.mono (ae w).size);have m:=b.l1;clear q1;have j:=a.c2;have h:=a.f2;have k:=jh a.lt;go_wp2_with fail;refine bodyPost_ret (v:=.agg #[.bool c,.slice d f c1]) (by simp [results,Tryz.results84,go_sem, *] <;> trivial) rfl ?_;exact ⟨c,d,f,c1,rfl,l.keep (((Kp.refl i).sb w.heap.size 0 a.box (by decide) (.bool c)).sb w.heap.size 1 (a.box.set ⟨w.heap.size,0,none⟩ (.bool c)) (by decide) (.slice d f c1)),((g.sc w.heap.size 0 (by omega) (.bool c)).sc w.heap.size 1 (by omega) (.slice d f c1))⟩
theorem vy (w:World) (b A n c D m e a k) (h:QD w b A n c D m e a k) (v:k<=300000000) (u:n=0\/m=0):Calls Tryz.prog 95 #[.agg #[.bool b,.slice A n c,.slice D m e]] w (ax w (.bool a.ok)):=by
 rcases Nat.eq_zero_or_pos n with o | o
 ·rcases Nat.eq_zero_or_pos m with l | l
  ·subst o l
   rw [Cz h rfl rfl];go_in;go_wp2;go_ret;exact ⟨rfl,(ae w).alloc Qr _⟩
  rw [EI h o l];have z:((n:Int)==0)=true:=by simp [o]
  have x:((m:Int)==0)=false:=by simp;omega
  clear o l u v h;go_in;go_upto_region 1 with fail;refine cQ ?_;intro i f;have g:Blk i w.heap.size 54 #[.bool b,.slice A n c,.slice D m e]:=by rw [f];exact Blk.new w _ _
  have d:Below w.heap.size w i:=by rw [f];exact (ae w).alloc Qr _
  clear f;have y:=g.v3;go_upto_region 3 with fail;go_cut [3,4] (fun t s4 j=>∃ q p,t=.pointer (some ⟨q,0,none⟩)/\s4=.pointer (some ⟨p,0,none⟩)/\Blk j q 134 #[.bool false,.slice A n c]/\Blk j p 134 #[.bool false,.slice D m e]/\Blk j w.heap.size 54 #[.bool b,.slice A n c,.slice D m e]/\Below i.heap.size i j)
  case first =>
   go_region
   all_goals
    go_wp2_with fail;go_meet
    first
     | exact ⟨_,_,rfl,rfl,((ak _ _ _ rfl).alloc _).drew,(ak _ _ _ (by simp)).drew,((g.alloc _).alloc _).drew,((((Below.refl _ _).alloc Qr _).alloc (by simp) _).drew)⟩
     | exact ⟨_,_,rfl,rfl,(ak _ _ _ (by simp)).drew,((ak _ _ _ rfl).alloc _).drew,((g.alloc _).alloc _).drew,((((Below.refl _ _).alloc Qr _).alloc (by simp) _).drew)⟩
  case rest =>
   clear g y;obtain ⟨q,p,rfl,rfl,r,s,g,q1⟩:=hcut;rename World=>w2;replace d:=d.trans (q1.mono d.size);clear q1;have y:=And.intro g.v3 (And.intro r.v2 s.v2);go_wp2;go_ret;exact ⟨rfl,d⟩
 have l:m=0:=by omega
 rw [EJ h o l];have z:((n:Int)==0)=false:=by simp;omega
 have x:((m:Int)==0)=true:=by simp [l]
 clear o l u v h;go_in;go_upto_region 1 with fail;refine cQ ?_;intro i f;have g:Blk i w.heap.size 54 #[.bool b,.slice A n c,.slice D m e]:=by rw [f];exact Blk.new w _ _
 have d:Below w.heap.size w i:=by rw [f];exact (ae w).alloc Qr _
 clear f;have y:=g.v3;go_upto_region 3 with fail;go_cut [3,4] (fun t s4 j=>∃ q p,t=.pointer (some ⟨q,0,none⟩)/\s4=.pointer (some ⟨p,0,none⟩)/\Blk j q 134 #[.bool false,.slice A n c]/\Blk j p 134 #[.bool false,.slice D m e]/\Blk j w.heap.size 54 #[.bool b,.slice A n c,.slice D m e]/\Below i.heap.size i j)
 case first =>
  go_region
  all_goals
   go_wp2_with fail;go_meet
   first
    | exact ⟨_,_,rfl,rfl,((ak _ _ _ rfl).alloc _).drew,(ak _ _ _ (by simp)).drew,((g.alloc _).alloc _).drew,((((Below.refl _ _).alloc Qr _).alloc (by simp) _).drew)⟩
    | exact ⟨_,_,rfl,rfl,(ak _ _ _ (by simp)).drew,((ak _ _ _ rfl).alloc _).drew,((g.alloc _).alloc _).drew,((((Below.refl _ _).alloc Qr _).alloc (by simp) _).drew)⟩
 case rest =>
  clear g y;obtain ⟨q,p,rfl,rfl,r,s,g,q1⟩:=hcut;rename World=>w2;replace d:=d.trans (q1.mono d.size);clear q1;have y:=And.intro g.v3 (And.intro r.v2 s.v2);go_wp2;go_ret;exact ⟨rfl,d⟩
theorem Ba (w:World) (b A n c D m e a k) (h:QD w b A n c D m e a k) (X:k<=300000000):Calls Tryz.prog 95 #[.agg #[.bool b,.slice A n c,.slice D m e]] w (ax w (.bool a.ok)):=by
 by_cases L:n=0\/m=0
 ·exact vy w b A n c D m e a k h X L
 have M:0<n:=by omega
 have J:0<m:=by omega
 have U:=h.2.2.2.1;have ab:=h.2.2.2.2;have q:=C8 h M J;have e1:((n:Int)==0)=false:=by simp;omega
 have e2:((m:Int)==0)=false:=by simp;omega
 obtain ⟨u,B⟩:∃ u,WD.ok ⟨false,a.num⟩=u:=⟨_,rfl⟩;obtain ⟨v,C⟩:∃ v,WD.ok ⟨false,a.den⟩=v:=⟨_,rfl⟩;rw [q,B,C];have P:=Qh B;have Q:=Qh C;have H:=Qh h;clear L M J q B C h;go_in;go_upto_region 1 with fail;refine cQ ?_;intro x o;have p:Blk x w.heap.size 54 #[.bool b,.slice A n c,.slice D m e]:=by rw [o];exact Blk.new w _ _
 have d:Below w.heap.size w x:=by rw [o];exact (ae w).alloc Qr _
 clear o;have y:=p.v3;go_upto_region 3 with fail;go_cut [3,4] (fun V s4 t=>∃ I z,V=.pointer (some ⟨I,0,none⟩)/\s4=.pointer (some ⟨z,0,none⟩)/\Blk t I 134 #[.bool false,.slice A n c]/\Blk t z 134 #[.bool false,.slice D m e]/\Blk t w.heap.size 54 #[.bool b,.slice A n c,.slice D m e]/\Below x.heap.size x t)
 case first =>
  go_region
  all_goals
   go_wp2_with fail;go_meet
   first
    | exact ⟨_,_,rfl,rfl,((ak _ _ _ rfl).alloc _).drew,(ak _ _ _ (by simp)).drew,((p.alloc _).alloc _).drew,((((Below.refl _ _).alloc Qr _).alloc (by simp) _).drew)⟩
    | exact ⟨_,_,rfl,rfl,(ak _ _ _ (by simp)).drew,((ak _ _ _ rfl).alloc _).drew,((p.alloc _).alloc _).drew,((((Below.refl _ _).alloc Qr _).alloc (by simp) _).drew)⟩
 case rest =>
  clear p y;obtain ⟨I,z,rfl,rfl,i,j,p,q1⟩:=hcut;rename World=>w2;replace d:=d.trans (q1.mono d.size);clear q1;have y:=And.intro p.v3 (And.intro i.v2 j.v2);go_wp2_with fail;(refine (ot _ false A n c u a.num (H.out.2.1.belw d) P.out (by omega)).mono ?_);rintro e w3 ⟨rfl,g⟩;replace d:=d.trans (g.mono d.size);replace i:=i.b g;replace j:=j.b g;clear g y p;cases u
  ·go_wp2
   go_ret;exact ⟨rfl,d⟩
  have y:=And.intro i.v2 j.v2;go_wp2_with fail;(refine (ot _ false D m e v a.den (H.out.2.2.1.belw d) Q.out (by omega)).mono ?_);rintro E w4 ⟨rfl,f⟩;replace d:=d.trans (f.mono d.size);replace i:=i.b f;replace j:=j.b f;clear f y;cases v
  ·go_wp2
   go_ret;exact ⟨rfl,d⟩
  have hN:=(H.out.num_z P.out).belw d;have K:=(H.out.den_z Q.out).belw d;have y:=And.intro i.v2 j.v2;go_wp2_with fail;(refine (Cw _ false A n c _ k hN false D m e _ k K (by omega)).mono ?_);rintro E w5 ⟨S,Y,n9,R,rfl,G,r⟩;replace d:=d.trans (r.mono d.size);clear r y hN K i j;go_wp2_with fail;(refine (ug _).mono ?_);rintro E w6 ⟨b8,Z,n8,W,rfl,T,l⟩;replace d:=d.trans (l.mono d.size);replace G:=G.belw l;clear l;obtain ⟨s,O⟩:∃ s,da ((Nat.gcd ((val a.num:Int)).natAbs ((val a.den:Int)).natAbs:Nat)) 1=s:=⟨_,rfl⟩;have N:=Qh O;clear O;go_wp2_with fail;(refine (A0 _ S Y n9 R _ (k+k) G.iz b8 Z n8 W 1 1 T.iz s N.out (by omega)).mono ?_);rintro E w7 ⟨rfl,F⟩;go_wp2;go_ret;exact bW (uf N.out rfl) (d.trans (F.mono d.size))

theorem yk (w:World) (A:Option Addr) (n c:Nat) (l:List Nat) (h:Wd w A n c l) (i:Int) (b:0<=i) (q:n<=4398046511104) :
 Calls Tryz.prog 196 #[.slice A n c,.int .i64 i] w fun e j=>e=.returned (.int .u64 (wd l i.toNat:Nat))/\w=j:=by
 obtain ⟨k,rfl⟩:=Int.eq_ofNat_of_zero_le b;have p:=h.lt k;have a:n=l.length:=h.2.1;by_cases hk:k<n
 ·obtain ⟨g,o,rfl,f⟩:=h.at_ (by omega)
  have m:=f k hk;clear f b;have H:=Qh a;clear a;go_in;go_wp2;go_ret;exact ⟨by simp,rfl⟩
 have d:wd l k=0:=eM (by omega);have H:=Qh d;have r:=Qh a;clear d b a;go_in;go_wp2;go_ret;exact ⟨by simp [H.out],rfl⟩

theorem bO (w:World) (A:Option Addr) (n c:Nat) (l:List Nat) (h:Wd w A n c l) (k x:Nat) (d:wd l k=x) (b:n<=4398046511104) :
 Calls Tryz.prog 196 #[.slice A n c,.int .i64 (k:Nat)] w fun e a=>e=.returned (.int .u64 (x:Nat))/\w=a:=by
 subst d;have:=yk w A n c l h (k:Nat) (by omega) b;simpa using this

theorem iE (w:World) (b:Bool) (A:Option Addr) (n c:Nat) (l:List Nat) (h:Wd w A n c l) (v:n<=1099511627776) :
 Calls Tryz.prog 190 #[.agg #[.bool b,.slice A n c]] w (ax w (.bool (WD.ok ⟨b,l⟩))):=by
 have d:=Qh h.2.1;by_cases j:n=0
 ·subst j
  have k:l=[]:=List.eq_nil_of_length_eq_zero d.out.symm;have i:=Qh (show WD.ok ⟨b,l⟩=!b by unfold WD.ok;simp [k]);clear k;go_in;go_wp2;go_ret;exact bW i.out.symm ((Below.refl _ _).alloc Qr _)
 obtain ⟨g,o,rfl,t,p⟩:=h.at2 (by omega);have s:=p (n-1) (by omega);have q:=h.lt (n-1)
 have m:WD.ok ⟨b,l⟩=!decide (wd l (n-1)=0):=by
  have a:l≠[]:=by rintro rfl;have:=d.out;simp at this;omega
  unfold WD.ok;simp only [if_neg a,<- d.out];by_cases hz:wd l (n-1)=0 <;> simp [hz]
 have i:=Qh m;clear m;have r:((n:Int)==0)=false:=by simp;omega
 have u:0<n:=by omega
 clear p j;generalize f:wd l (n-1)=x at *;clear f;go_in;go_wp2;go_ret;refine bW ?_ ((Below.refl _ _).alloc Qr _);rw [i.out];by_cases hz:x=0 <;> simp [hz]

theorem dc (w:World) (b:Bool) (A:Option Addr) (n c:Nat) (l:List Nat) (h:Wd w A n c l) (d:n<=1099511627776) :
 Calls Tryz.prog 159 #[.agg #[.bool b,.slice A n c]] w (fz w (WD.m ⟨b,l⟩)):=by
 cases hk:WD.ok ⟨b,l⟩
 ·have a:=Qh hk
  go_in;go_wp2_with (go_at_call 190;refine (iE _ b A n c l (h.keep ((Kp.refl _).alloc _)) d).mono ?_;rintro e f ⟨rfl,hb⟩);go_ret;refine ⟨none,0,0,rfl,?_,((Below.refl _ _).alloc Qr _).trans (hb.mono (by simp))⟩;unfold WD.m;rw [a.out];exact Wd.nil_ _
 have a:=Qh hk;go_in;go_wp2_with (go_at_call 190;refine (iE _ b A n c l (h.keep ((Kp.refl _).alloc _)) d).mono ?_;rintro e f ⟨rfl,hb⟩;obtain ⟨i,g⟩:=cl hb);go_ret;refine ⟨A,n,c,rfl,?_,((Below.refl _ _).alloc Qr _).trans (hb.mono (by simp))⟩;unfold WD.m;rw [a.out];exact h.keep (((Kp.refl _).alloc _).below hb)

theorem dD (w:World) (b:Bool) (A:Option Addr) (n c:Nat) (l:List Nat) (h:Wd w A n c l) (d:n<=1099511627776) :
 Calls Tryz.prog 160 #[.agg #[.bool b,.slice A n c]] w (ax w (.bool (WD.s ⟨b,l⟩))):=by
 cases hk:WD.ok ⟨b,l⟩
 ·have a:=Qh hk
  go_in;go_wp2_with (go_at_call 190;refine (iE _ b A n c l (h.keep ((Kp.refl _).alloc _)) d).mono ?_;rintro e f ⟨rfl,hb⟩);go_ret;refine bW ?_ (((Below.refl _ _).alloc Qr _).trans (hb.mono (by simp)));unfold WD.s;rw [a.out];rfl
 have a:=Qh hk;go_in;go_wp2_with (go_at_call 190;refine (iE _ b A n c l (h.keep ((Kp.refl _).alloc _)) d).mono ?_;rintro e f ⟨rfl,hb⟩;obtain ⟨i,g⟩:=cl hb);go_ret;refine bW ?_ (((Below.refl _ _).alloc Qr _).trans (hb.mono (by simp)));unfold WD.s;rw [a.out];simp


theorem Wd.cut_ {w:World}{g o n c:Nat}{l:List Nat}(h:Wd w (some ⟨g,o,none⟩) n c l) {j:Nat}(f:j<=n):Wd w (some ⟨g,o,none⟩) j c (l.take j):=by
 have p:=h.2.1;refine ⟨Wds.take h.1 j,by rw [List.length_take];omega,Nat.le_trans f h.2.2.1,fun m=>?_⟩;obtain ⟨a,b,cur,fr,e,hb,k⟩:=h.2.2.2 (by omega);refine ⟨a,b,cur,fr,e,hb,fun i d=>?_⟩;rw [k i (by omega)];have:wd (l.take j) i=wd l i:=by simp [wd,List.getD,d]
 rw [this]
theorem kP {P:Program}(w:World) (t d e:TypeId) (i:TypeInfo) (b:P.underlying t=some (.slice e)) (a:P.info? e=some i) (g:Nat) (A:Option Addr) (c:Nat) :
 (Builtin.append_ #[t,t] d #[.slice (some ⟨g,0,none⟩) 0 0,.slice A 0 c]).run P w=.ok (.slice (some ⟨g,0,none⟩) 0 0) w:=by
 cases A <;> simp [Builtin.append_,run_underlying b,sizeOf,typeInfo,a,Builtin.lenOf,Builtin.firstCells,loadCells,loadCellsFrom,storeCells]
theorem eu {P:Program}{w:World}{ops:Array Oper}{rest:List Oper}{o:Oper}{a:Act}{Q:Exit->Act->World->Prop}(d:o.guard=none) (s x:Operand) (t:TypeId)
 (f:o.op=.call { callee:=.builtin .append,args:=#[s,x],argTypes:=#[t,t] })
 (e:TypeId) (i:TypeInfo) (j:P.underlying t=some (.slice e)) (l:P.info? e=some i)
 (g:Nat) (A:Option Addr) (c:Nat) (k:a.eval s=.slice (some ⟨g,0,none⟩) 0 0) (m:a.eval x=.slice A 0 c)
 (h:wpList P ops Q rest (a.put o.dst (.slice (some ⟨g,0,none⟩) 0 0)) w):wpList P ops Q (o::rest) a w:=by
 refine wpList_plain d fun K n=>?_
 have b:=kP (P:=P) w t o.type e i j l g A c;unfold Oper.wp;simp [execOp,f,resolve,invoke,builtin,k,m,b,Result.andThen];exact n _ _ h
theorem eP (w:World) (A:Option Addr) (n c:Nat) (l:List Nat) (h:Wd w A n c l) (X:n<=4398046511104) :
 Calls Tryz.prog 165 #[.slice A n c] w (fz w (ap (val l))):=by
 have y:=Qh h.2.1;have O:n<=c:=h.2.2.1;obtain ⟨P,s,D,F,H⟩:=info_parts dP;by_cases r:n=0
 ·subst r
  have HE:=Qh (show ap (val l)=[] by rw [List.eq_nil_of_length_eq_zero y.out.symm];exact az);clear h X;go_in;go_wp2_with (at_builtin;refine eu rfl _ _ _ rfl 173 P Tryz.underlying52 s _ _ _ rfl rfl ?_);go_loop [3] (fun v=>v=.slice (some ⟨w.heap.size,0,none⟩) 0 0) (fun _=>0)
  case atStart=>rfl
  case round =>
   subst hrel;go_wp2;go_ret;refine ⟨_,_,_,rfl,?_,(Below.refl _ _).alloc Qr _⟩;rw [HE.out];exact ⟨by simp [Wds],rfl,Qr,fun h=>absurd h (by omega)⟩
 obtain ⟨g,o,rfl,B⟩:=h.at_ (by omega);clear B;have hp:0<n:=by omega
 have p:=World.ownsRow_lit (e:=173) (size:=1) w #[] 0 Qr (by simp [maxLen]) rfl;have d:=(h.keep ((Kp.refl w).alloc (.cells #[] 173))).news (by omega) Qr;have u:(words (l.take n)).length=n*1:=by rw [cN,List.length_take,<- y.out];omega
 have Q:=Qh p;have R:=Qh d;have t:=Qh u;have J:=Qh h.1;clear p d u h r;go_in;go_wp2_with (at_builtin;refine wpList_append_lies _ rfl _ _ _ rfl w.heap.size 173 P (.int .u32 0) 1 4 Tryz.underlying52 s D F H rfl (by omega) _ 0 [] rfl Q.out ⟨g,o,none⟩ n c (words (l.take n)) rfl t.out R.out (fL _) (by omega) (by unfold maxLen;omega) (by omega) (by simp) (w.heap.size+1) (by simp) ?_;intro W cap w1 a f E L);simp only [Nat.zero_add,List.nil_append] at a;have j:=Wd.of_own a (Wds.take J.out n);rw [List.take_of_length_le (Nat.le_of_eq y.out.symm)] at j;have q:=((Below.refl w.heap.size w).alloc Qr (.cells #[] 173)).grown f (by simp) (fun b hb=>Nat.le_of_eq (Option.some.inj hb));have m:=Qh j;have N:=Qh q;have I:n<=cap:=j.2.2.1;clear a f E j q Q R t;go_loop [3] (fun v=>∃ k:Nat,k<=n/\v=.slice (some ⟨W,0,none⟩) k cap/\tX l k) (fun v=>match v with | .slice _ k _=>k | _=>0)
 case atStart=>exact ⟨n,Qr,by simp,fun i S=>eM (by rw [<- y.out];exact S)⟩
 case round =>
  obtain ⟨k,M,rfl,z⟩:=hrel;by_cases r:k=0
  ·subst r
   have C:=Qh z;clear z;go_wp2;go_ret;refine ⟨_,_,_,rfl,?_,N.out⟩;have:=bR J.out (Nat.zero_le _) C.out (.inl rfl);rw [this];exact m.out.cut_ (Nat.zero_le _)
  have ab:0<k:=by omega
  obtain ⟨g',o',e,B⟩:=m.out.at_ (by omega);injection e with e;injection e with e1 e2;subst e1 e2;have K:=B (k-1) (by omega);rw [Nat.zero_add] at K;have V:=m.out.lt (k-1);have C:=Qh z;generalize T:wd l (k-1)=x at *;have U:=Qh T;clear B r z T;by_cases G:x=0
  ·subst G
   go_wp2;go_round
   case rel=>exact ⟨k-1,by omega,rfl,fun i S=>by
    by_cases he:i=k-1
    ·subst he;exact U.out
    exact C.out i (by omega)⟩
   case measure=>dsimp only;omega
  have Z:((x:Int)==0)=false:=by simp;omega
  have Y:=Qh G;clear G;go_wp2;go_ret;have hd:=bR J.out (by rw [<- y.out];exact M) C.out (.inr (by rw [U.out];exact Y.out));refine ⟨_,_,_,rfl,?_,N.out⟩;rw [hd];exact m.out.cut_ M

theorem jK (w:World) (b:Bool) (A:Option Addr) (n c:Nat) (l:List Nat) (h:Wd w A n c l) (t:n<=1099511627776) :
 Calls Tryz.prog 129 #[.bool b,.slice A n c] w (gP w (wh (sgn b (val l)))):=by
 rw [xx];go_in;go_wp2_with fail;refine (eP _ A n c l ?_ ?_).mono ?_;(exact h.keep ((Kp.refl _).alloc _));(omega);rintro e f ⟨k,a,c1,rfl,d,hb⟩;have q:Below w.heap.size w f:=((Below.refl _ _).alloc Qr _).trans (hb.mono (by simp));have x:Blk f w.heap.size 134 #[.bool false,.slice none 0 0]:=(ak w _ _ rfl).below hb (by simp);have c0:f.cell? ⟨w.heap.size,0,none⟩=some (.bool false):=x.cell 0;have o:f.cell? ⟨w.heap.size,1,none⟩=some (.slice none 0 0):=x.cell 1;have u:=x.f2;have j:=Qh d.2.1;clear hb h;by_cases i:a=0
 ·subst i
  have r:=Qh (List.eq_nil_of_length_eq_zero j.out.symm);have g:=Qh d;clear d;go_wp2;refine bodyPost_ret (v:=.agg #[.bool false,.slice none 0 0]) (by simp [results,Tryz.results129,go_sem, *] <;> trivial) rfl ?_;rw [r.out];exact ⟨none,0,0,by simp,Wd.nil_ _,(q.setCell (p:=⟨w.heap.size,0,none⟩) Qr _).setCell (p:=⟨w.heap.size,1,none⟩) Qr _⟩
 have s:((a:Int)==0)=false:=by simp;omega
 have m:0<a:=by omega
 have g:=Qh d;clear d i;go_wp2;refine bodyPost_ret (v:=.agg #[.bool b,.slice k a c1]) (by simp [results,Tryz.results129,go_sem, *] <;> trivial) rfl ?_;refine ⟨k,a,c1,?_,g.out.keep (kp2 x.box (by decide) _ _ _ _),(q.setCell (p:=⟨w.heap.size,0,none⟩) Qr _).setCell (p:=⟨w.heap.size,1,none⟩) Qr _⟩;have:decide (0<(ap (val l)).length)=true:=by rw [<- j.out];simp [m]
 rw [this];simp
theorem dQ (w:World) (A n c l) (h:Wd w A n c l) (I:n<=1099511627776) (A' n' c' l') (g:Wd w A' n' c' l') (F:n'<=1099511627776) :
 Calls Tryz.prog 192 #[.slice A n c,.slice A' n' c'] w (ax w (.int .i64 (bH (val l) (val l')))):=by
 have G:=Qh h.2.1;have r:=Qh g.2.1;obtain ⟨M,t⟩:∃ M,M=max n n':=⟨_,rfl⟩;have q:=Qh t;have E:M<=1099511627776:=by omega
 clear t;go_in;go_wp2
 all_goals
  go_loop [5] (fun v=>∃ k:Nat,k<=M/\v=.int .i64 ((k:Int)-1)/\Et l l' k) (fun v=>(intOf v+1).toNat)
  case atStart=>exact ⟨M,Qr,by have:=q.out;rw [show (M:Int)-1=_ from rfl];congr 1;omega,fun j J=>by rw [eM (by rw [<- G.out];have:=q.out;omega),eM (by rw [<- r.out];have:=q.out;omega)]⟩
  case round =>
   obtain ⟨k,H,rfl,o⟩:=hrel;by_cases u:k=0
   ·subst u
    have m:=Qh (show bH (val l) (val l')=0 by unfold bH;rw [oe (fun j=>o j (Nat.zero_le _))];simp);clear o;go_wp2;go_ret;exact cM m.out.symm (Below.refl _ _)
   obtain ⟨j,rfl⟩:∃ j,k=j+1:=⟨k-1,by omega⟩;obtain ⟨x,y,D,B⟩:∃ x y,wd l j=x/\wd l' j=y:=⟨_,_,rfl,rfl⟩;have d:=Qh D;have b:=Qh B;have s:=Qh o;have z:(((j+1:Nat):Int)-1)=(j:Int):=by omega
   rw [z];clear D B o u z;rcases Nat.lt_trichotomy x y with a | rfl | a
   ·have p:((x:Int) != (y:Int))=true:=by rw [bne_iff_ne];omega
    have m:=Qh (show bH (val l) (val l')=-1 by unfold bH;rw [if_pos (ix h.1 (i:=j) (by rw [d.out,b.out];exact a) (fun i C=>s.out i (by omega)))])
    go_wp2_with (first
     | (go_at_call 196;(with_reducible refine (bO _ A n c l ?_ j x d.out (by omega)).mono ?_);exact h;rintro e f ⟨rfl,rfl⟩)
     | (go_at_call 196;(with_reducible refine (bO _ A' n' c' l' ?_ j y b.out (by omega)).mono ?_);exact g;rintro e f ⟨rfl,rfl⟩))
    go_ret;exact cM m.out.symm (Below.refl _ _)
   ·go_wp2_with (first
     | (go_at_call 196;(with_reducible refine (bO _ A n c l ?_ j x d.out (by omega)).mono ?_);exact h;rintro e f ⟨rfl,rfl⟩)
     | (go_at_call 196;(with_reducible refine (bO _ A' n' c' l' ?_ j x b.out (by omega)).mono ?_);exact g;rintro e f ⟨rfl,rfl⟩))
    go_round
    case rel=>exact ⟨j,by omega,by go_num,fun i C=>by
     by_cases hij:i=j
     ·subst hij;rw [d.out,b.out]
     exact s.out i (by omega)⟩
    case measure=>simp [intOf]
   have p:((x:Int) != (y:Int))=true:=by rw [bne_iff_ne];omega
   have m:=Qh (show bH (val l) (val l')=1 by
    have:=ix g.1 (i:=j) (by rw [d.out,b.out];exact a) (fun i C=>(s.out i (by omega)).symm)
    unfold bH;rw [if_neg (by omega),if_neg (by omega)])
   go_wp2_with (first
    | (go_at_call 196;(with_reducible refine (bO _ A n c l ?_ j x d.out (by omega)).mono ?_);exact h;rintro e f ⟨rfl,rfl⟩)
    | (go_at_call 196;(with_reducible refine (bO _ A' n' c' l' ?_ j y b.out (by omega)).mono ?_);exact g;rintro e f ⟨rfl,rfl⟩))
   go_ret;exact cM m.out.symm (Below.refl _ _)

theorem sZ {L:List Nat}{d i:Nat}(h:i<L.length):wd (L++[d]) i=wd L i:=by
 simp [wd,List.getD,List.getElem?_append_left h]
theorem Bb {L:List Nat}{d:Nat}:wd (L++[d]) L.length=d:=by simp [wd,List.getD]
theorem px {L:List Nat}{d k:Nat}(h:L.length=k):Sm (wd (L++[d])) (k+1)=Sm (wd L) k+d*4294967296^k:=by
 subst h;rw [Sm,Bb,dN (fun i a=>sZ a)]
theorem mu {L:List Nat}{d:Nat}(h:Wds L) (hd:d<4294967296):Wds (L++[d]):=by
 intro x b;rcases List.mem_append.1 b with a | a
 ·exact h x a
 simp at a;omega
theorem ju (L:List Nat) (d:Nat):words (L++[d])=words L++[.int .u32 (d:Nat)]:=by simp [words]
theorem dd {w:World}{base:Nat}{e:TypeId}{size:Nat}{v:Value}{n:Nat}{a:List Value}(h:w.ownsRow base e size v n a):∀ b,v.ownBlock=some b->base<=b:=by
 intro b hb;rcases h.2 with ⟨rfl,_⟩ | ⟨g,c,cur,rfl,d,_⟩
 ·simp [Value.ownBlock] at hb
 simp [Value.ownBlock] at hb;omega
theorem yl (w:World) (A n c l) (p:Wd w A n c l) (hn:n<=1099511627776) (A' n' c' l') (o:Wd w A' n' c' l') (W:n'<=1099511627776) (Z:n<=n') :
 Calls Tryz.prog 163 #[.slice A n c,.slice A' n' c'] w (fz w (ap (val l+val l'))):=by
 have H:=Qh p.2.1;have m:=Qh o.2.1;obtain ⟨V,B,C,D,u⟩:=info_parts dP;go_in;go_wp2_with fail;go_loopw [5,6,15] (fun X S z wr=>∃ (k b:Nat) (L:List Nat),k<=n'+1/\z=.int .i64 (k:Nat)/\S=.int .u64 (b:Nat)/\b<=1/\L.length=k/\xO l l' L k b/\wr.ownsRow w.heap.size 173 1 X k (words L)/\Below w.heap.size w wr) (fun _ _ z _=>n'+1-(intOf z).toNat)
 case atStart=>exact ⟨0,0,[],Nat.zero_le _,rfl,rfl,by omega,rfl,⟨by simp [Wds],by simp [Sm]⟩,⟨rfl,.inl ⟨rfl,rfl⟩⟩,ae _⟩
 case round =>
  obtain ⟨k,b,L,hk,rfl,rfl,Y,j,K,d,a⟩:=hrel;have i:=Qh ((Kp.refl w).below a);have s:=Qh K;have h:=Qh j;have r:=Qh d;clear K j d;by_cases hkM:k<n'+1
  ·obtain ⟨x,y,v,E⟩:∃ x y,wd l k=x/\wd l' k=y:=⟨_,_,rfl,rfl⟩
   have U:x<4294967296:=by rw [<- v];exact p.lt k
   have N:y<4294967296:=by rw [<- E];exact o.lt k
   have M:=Qh v;have G:=Qh E;have O:=a.size;have HD:=Qh (iB (x:=x) (y:=y) s.out.2);clear v E
   go_wp2_with (first
    | (go_at_call 196;(with_reducible refine (bO _ A n c l ?_ k x M.out (by omega)).mono ?_);exact p.keep i.out;rintro e R ⟨rfl,rfl⟩)
    | (go_at_call 196;(with_reducible refine (bO _ A' n' c' l' ?_ k y G.out (by omega)).mono ?_);exact o.keep i.out;rintro e R ⟨rfl,rfl⟩)
    | (at_builtin;refine wpList_append_lies _ rfl _ _ _ rfl w.heap.size 173 V (.int .u32 0) 1 4 Tryz.underlying52 B C D u rfl (by omega) _ k (words L) rfl (r.out.alloc _) ⟨wr.heap.size,0,none⟩ 1 1 [_] rfl rfl (World.news_of_block (heap_alloc_new wr _)) (by simp [Value.oneCell']) (by omega) (by unfold maxLen;omega) (by omega) (by simp;omega) (wr.heap.size+1) (by simp) ?_;intro P cap Q f g T J))
   go_roundw
   case rel =>
    refine ⟨k+1,(b+x+y)/4294967296,L++[(b+x+y)%4294967296],by omega,by go_num,by congr 1;omega,by omega,by simp [h.out],⟨mu s.out.1 (Nat.mod_lt _ (by omega)),?_⟩,?_,(a.alloc a.size _).grown g (by simp;omega) (dd r.out)⟩
    ·rw [px h.out,Sm,Sm,M.out,G.out,Nat.pow_succ]
     exact HD.out
    have e:(Value.int .u32 (((x:Int)+y+b)%4294967296))=.int .u32 (((b+x+y)%4294967296:Nat):Int):=by congr 1;omega
    rw [ju,<- e];exact f
   case measure=>simp [intOf];omega
  have t:k=n'+1:=by omega
  have I:val L=val l+val l':=by
   have q:=s.out.2;have h2:=cF p.1;have h3:=cF o.1;rw [bm L (by rw [h.out];exact Qr),bm l (by rw [<- H.out];omega),bm l' (by rw [<- m.out];omega)] at q;have h4:4294967296^l.length<=4294967296^(k-1):=Nat.pow_le_pow_right (by omega) (by rw [<- H.out];omega);have h5:4294967296^l'.length<=4294967296^(k-1):=Nat.pow_le_pow_right (by omega) (by rw [<- m.out];omega);have h6:4294967296^k=4294967296^(k-1)*4294967296:=by rw [<- Nat.pow_succ];congr 1;omega
   rcases (show b=0\/b=1 by omega) with rfl | rfl
   ·omega
   omega
  have HV:=Qh I;obtain ⟨P,cap,rfl,_,_⟩:=r.out.form (by omega);clear I t;go_wp2_with fail;refine (eP _ _ k cap L ?_ ?_).mono ?_;(exact Wd.of_own r.out s.out.1);(omega);rintro e Q ⟨A1,n1,c1,rfl,q,F⟩;go_wp2;go_ret;rw [HV.out] at q;exact ⟨_,_,_,rfl,q,a.trans (F.mono a.size)⟩
theorem ym (w:World) (A n c l) (p:Wd w A n c l) (hn:n<=1099511627776) (A' n' c' l') (o:Wd w A' n' c' l') (W:n'<=1099511627776) (Z:n'<n) :
 Calls Tryz.prog 163 #[.slice A n c,.slice A' n' c'] w (fz w (ap (val l+val l'))):=by
 have H:=Qh p.2.1;have m:=Qh o.2.1;obtain ⟨V,B,C,D,u⟩:=info_parts dP;go_in;go_wp2_with fail;go_loopw [5,6,15] (fun X S z wr=>∃ (k b:Nat) (L:List Nat),k<=n+1/\z=.int .i64 (k:Nat)/\S=.int .u64 (b:Nat)/\b<=1/\L.length=k/\xO l l' L k b/\wr.ownsRow w.heap.size 173 1 X k (words L)/\Below w.heap.size w wr) (fun _ _ z _=>n+1-(intOf z).toNat)
 case atStart=>exact ⟨0,0,[],Nat.zero_le _,rfl,rfl,by omega,rfl,⟨by simp [Wds],by simp [Sm]⟩,⟨rfl,.inl ⟨rfl,rfl⟩⟩,ae _⟩
 case round =>
  obtain ⟨k,b,L,hk,rfl,rfl,Y,j,K,d,a⟩:=hrel;have i:=Qh ((Kp.refl w).below a);have s:=Qh K;have h:=Qh j;have r:=Qh d;clear K j d;by_cases hkM:k<n+1
  ·obtain ⟨x,y,v,E⟩:∃ x y,wd l k=x/\wd l' k=y:=⟨_,_,rfl,rfl⟩
   have U:x<4294967296:=by rw [<- v];exact p.lt k
   have N:y<4294967296:=by rw [<- E];exact o.lt k
   have M:=Qh v;have G:=Qh E;have O:=a.size;have HD:=Qh (iB (x:=x) (y:=y) s.out.2);clear v E
   go_wp2_with (first
    | (go_at_call 196;(with_reducible refine (bO _ A n c l ?_ k x M.out (by omega)).mono ?_);exact p.keep i.out;rintro e R ⟨rfl,rfl⟩)
    | (go_at_call 196;(with_reducible refine (bO _ A' n' c' l' ?_ k y G.out (by omega)).mono ?_);exact o.keep i.out;rintro e R ⟨rfl,rfl⟩)
    | (at_builtin;refine wpList_append_lies _ rfl _ _ _ rfl w.heap.size 173 V (.int .u32 0) 1 4 Tryz.underlying52 B C D u rfl (by omega) _ k (words L) rfl (r.out.alloc _) ⟨wr.heap.size,0,none⟩ 1 1 [_] rfl rfl (World.news_of_block (heap_alloc_new wr _)) (by simp [Value.oneCell']) (by omega) (by unfold maxLen;omega) (by omega) (by simp;omega) (wr.heap.size+1) (by simp) ?_;intro P cap Q f g T J))
   go_roundw
   case rel =>
    refine ⟨k+1,(b+x+y)/4294967296,L++[(b+x+y)%4294967296],by omega,by go_num,by congr 1;omega,by omega,by simp [h.out],⟨mu s.out.1 (Nat.mod_lt _ (by omega)),?_⟩,?_,(a.alloc a.size _).grown g (by simp;omega) (dd r.out)⟩
    ·rw [px h.out,Sm,Sm,M.out,G.out,Nat.pow_succ]
     exact HD.out
    have e:(Value.int .u32 (((x:Int)+y+b)%4294967296))=.int .u32 (((b+x+y)%4294967296:Nat):Int):=by congr 1;omega
    rw [ju,<- e];exact f
   case measure=>simp [intOf];omega
  have t:k=n+1:=by omega
  have I:val L=val l+val l':=by
   have q:=s.out.2;have h2:=cF p.1;have h3:=cF o.1;rw [bm L (by rw [h.out];exact Qr),bm l (by rw [<- H.out];omega),bm l' (by rw [<- m.out];omega)] at q;have h4:4294967296^l.length<=4294967296^(k-1):=Nat.pow_le_pow_right (by omega) (by rw [<- H.out];omega);have h5:4294967296^l'.length<=4294967296^(k-1):=Nat.pow_le_pow_right (by omega) (by rw [<- m.out];omega);have h6:4294967296^k=4294967296^(k-1)*4294967296:=by rw [<- Nat.pow_succ];congr 1;omega
   rcases (show b=0\/b=1 by omega) with rfl | rfl
   ·omega
   omega
  have HV:=Qh I;obtain ⟨P,cap,rfl,_,_⟩:=r.out.form (by omega);clear I t;go_wp2_with fail;refine (eP _ _ k cap L ?_ ?_).mono ?_;(exact Wd.of_own r.out s.out.1);(omega);rintro e Q ⟨A1,n1,c1,rfl,q,F⟩;go_wp2;go_ret;rw [HV.out] at q;exact ⟨_,_,_,rfl,q,a.trans (F.mono a.size)⟩
theorem mw (w:World) (A n c l) (d:Wd w A n c l) (f:n<=1099511627776) (A' n' c' l') (b:Wd w A' n' c' l') (a:n'<=1099511627776) :
 Calls Tryz.prog 163 #[.slice A n c,.slice A' n' c'] w (fz w (ap (val l+val l'))):=by
 rcases Nat.lt_or_ge n' n with h | h
 ·exact ym w A n c l d f A' n' c' l' b a h
 exact yl w A n c l d f A' n' c' l' b a h

theorem Da {w:World}{base k:Nat}{v:Value}{L:List Nat}(h:w.ownsRow base 173 1 v k (words L)) (c:L.length=k) (hw:Wds L):∃ B cap,v=.slice B k cap/\Wd w B k cap L:=by
 rcases Nat.eq_zero_or_pos k with a | a
 ·have:L=[]:=List.eq_nil_of_length_eq_zero (by rw [c,a])
  subst this a;rcases h.2 with ⟨e,_⟩ | ⟨b,cap,cur,e,_⟩
  ·exact ⟨none,0,e,Wd.nil_ _⟩
  exact ⟨_,cap,e,Wd.of_own (e ▸ h) (by simp [Wds])⟩
 obtain ⟨b,cap,e,_,_⟩:=h.form a;exact ⟨_,cap,e,Wd.of_own (e ▸ h) hw⟩
theorem ox (w:World) (A n c l) (C:Wd w A n c l) (hn:n<=1099511627776) (A' n' c' l') (r:Wd w A' n' c' l') (ab:n'<=n) (K:val l'<=val l) :
 Calls Tryz.prog 164 #[.slice A n c,.slice A' n' c'] w (fz w (ap (val l-val l'))):=by
 have S:=Qh C.2.1;have H:=Qh r.2.1;have HV:=Qh K;obtain ⟨Z,z,D,E,t⟩:=info_parts dP;clear K;go_in;go_wp2_with fail;go_loopw [5,6,11] (fun ov V v wr=>∃ (k d:Nat) (L:List Nat),k<=n/\v=.int .i64 (k:Nat)/\V=.int .u64 (d:Nat)/\d<=1/\L.length=k/\xP l l' L k d/\wr.ownsRow w.heap.size 173 1 ov k (words L)/\Below w.heap.size w wr) (fun _ _ v _=>n-(intOf v).toNat)
 case atStart=>exact ⟨0,0,[],Nat.zero_le _,rfl,rfl,by omega,rfl,⟨by simp [Wds],by simp [Sm]⟩,⟨rfl,.inl ⟨rfl,rfl⟩⟩,ae _⟩
 case round =>
  obtain ⟨k,d,L,hk,rfl,rfl,Y,m,N,f,a⟩:=hrel;have j:=Qh ((Kp.refl w).below a);have o:=Qh N;have b:=Qh m;have F:=Qh f;clear N m f;by_cases hkM:k<n
  ·obtain ⟨x,y,u,G⟩:∃ x y,wd l k=x/\wd l' k=y:=⟨_,_,rfl,rfl⟩
   have X:x<4294967296:=by rw [<- u];exact C.lt k
   have Q:y<4294967296:=by rw [<- G];exact r.lt k
   have O:=Qh u;have J:=Qh G;have R:=a.size;clear u G
   go_wp2_with (first
    | (go_at_call 196;(with_reducible refine (bO _ A n c l ?_ k x O.out (by omega)).mono ?_);exact C.keep j.out;rintro e U ⟨rfl,rfl⟩)
    | (go_at_call 196;(with_reducible refine (bO _ A' n' c' l' ?_ k y J.out (by omega)).mono ?_);exact r.keep j.out;rintro e U ⟨rfl,rfl⟩)
    | (at_builtin;refine wpList_append_lies _ rfl _ _ _ rfl w.heap.size 173 Z (.int .u32 0) 1 4 Tryz.underlying52 z D E t rfl (by omega) _ k (words L) rfl (F.out.alloc _) ⟨wr.heap.size,0,none⟩ 1 1 [_] rfl rfl (World.news_of_block (heap_alloc_new wr _)) (by simp [Value.oneCell']) (by omega) (by unfold maxLen;omega) (by omega) (by simp;omega) (wr.heap.size+1) (by simp) ?_;intro gx cap T g h W M))
   go_roundw
   case rel =>
    refine ⟨k+1,1-(4294967296+x-y-d)/4294967296,L++[(4294967296+x-y-d)%4294967296],by omega,by go_num,by congr 1;omega,by omega,by simp [b.out],⟨mu o.out.1 (Nat.mod_lt _ (by omega)),?_⟩,?_,(a.alloc a.size _).grown h (by simp;omega) (dd F.out)⟩
    ·rw [px b.out,Sm,Sm,O.out,J.out,Nat.pow_succ]
     exact kM o.out.2 (by omega)
    have e:(Value.int .u32 ((4294967296+(x:Int)-y-d)%4294967296))=.int .u32 (((4294967296+x-y-d)%4294967296:Nat):Int):=by congr 1;omega
    rw [ju,<- e];exact g
   case measure=>simp [intOf];omega
  have q:k=n:=by omega
  subst q
  have i:val L=val l-val l':=by
   have p:=o.out.2;have P:=cF o.out.1;have h3:=HV.out;rw [b.out] at P;rw [bm L (by rw [b.out];exact Qr),bm l (by rw [<- S.out];omega),bm l' (by rw [<- H.out];omega)] at p;rcases (show d=0\/d=1 by omega) with rfl | rfl
   ·omega
   omega
  have s:=Qh i;clear i;have hf:=Da F.out b.out o.out.1;obtain ⟨B,cap,rfl,hw⟩:=hf;have HW:=Qh hw;clear hw;go_wp2_with fail;refine (eP _ _ k cap L ?_ ?_).mono ?_;(exact HW.out);(omega);rintro e T ⟨A1,n1,c1,rfl,p,I⟩;go_wp2;go_ret;rw [s.out] at p;exact ⟨_,_,_,rfl,p,a.trans (I.mono a.size)⟩
theorem de (w:World) (b:Bool) (A:Option Addr) (n c:Nat) (l:List Nat) (z:Int) (h:Wd w A n c l) (a:n<=1099511627776) (d:sgn b (val l)=z) :
 Calls Tryz.prog 129 #[.bool b,.slice A n c] w (gP w (wh z)):=by subst d;exact jK w b A n c l h a
theorem lx (w:World) (A n c l) (d:Wd w A n c l) (f:n<=1099511627776) (A' n' c' l') (b:Wd w A' n' c' l') (a:n'<=1099511627776) (_:aZ l) (_:aZ l') :
 Calls Tryz.prog 192 #[.slice A n c,.slice A' n' c'] w (ax w (.int .i64 (bH (val l) (val l')))):=dQ w A n c l d f A' n' c' l' b a
theorem Bc (w:World) (b:Bool) (A n c l) (g:Wd w A n c l) (J:n<=1099511627000) :
 Calls Tryz.prog 126 #[.agg #[.bool b,.slice A n c]] w (gP w (wh (-WD.z ⟨b,l⟩))):=by
 have H:=Qh g.2.1;go_in;go_wp2_with fail;have b0:Below w.heap.size w ((w.alloc (.cells #[.bool b,.slice A n c] 134)).alloc (.cells #[.bool false,.slice none 0 0] 134)):=(((Below.refl _ _).alloc Qr _).alloc (by simp) _);generalize a:((w.alloc (.cells #[.bool b,.slice A n c] 134)).alloc (.cells #[.bool false,.slice none 0 0] 134))=W0 at b0 ⊢;have G:W0.cell? ⟨w.heap.size,0,none⟩=some (.bool b):=by subst a;simp [go_sem]
 have Q:W0.frozen? ⟨w.heap.size,0,none⟩=false:=by subst a;simp [go_sem]
 have L:W0.cell? ⟨w.heap.size,1,none⟩=some (.slice A n c):=by subst a;simp [go_sem]
 have E:W0.frozen? ⟨w.heap.size,1,none⟩=false:=by subst a;simp [go_sem]
 have F:W0.cell? ⟨w.heap.size+1,0,none⟩=some (.bool false):=by subst a;simp [go_sem]
 have u:W0.frozen? ⟨w.heap.size+1,0,none⟩=false:=by subst a;simp [go_sem]
 have B:W0.cell? ⟨w.heap.size+1,1,none⟩=some (.slice none 0 0):=by subst a;simp [go_sem]
 have I:W0.frozen? ⟨w.heap.size+1,1,none⟩=false:=by subst a;simp [go_sem]
 have x0:Box W0 w.heap.size 134:=by subst a;exact (bG _ _ _ (by simp)).alloc _
 have O:Box W0 (w.heap.size+1) 134:=by subst a;exact bG _ _ _ (by simp)
 have p:ji (w.heap.size+1) (w.heap.size+1+1) 2 W0:=by subst a;exact lu (by simp)
 have f:w.heap.size+1+1<=W0.heap.size:=by subst a;simp
 clear a;have g:=g.belw b0;have C:Below W0.heap.size W0 W0:=ae _;have d:w.heap.size+1<=w.heap.size+1+1:=by omega
 go_region_held3 (fun q=>Sees (w.heap.size+1) W0 q) (first | exact Sees.of (Nat.le_trans d f) (by assumption) | exact Sees.of (Nat.le_trans d f) (af (by assumption) _) | exact (Sees.set (Sees.of (Nat.le_trans d f) (by assumption)) (by simp)) | exact (Sees.set (Sees.set (Sees.of (Nat.le_trans d f) (by assumption)) (by simp)) (by simp)))
  (first
   | (go_at_call 160;(with_reducible refine (dD _ b A n c l ?_ ?_).mono ?_);(exact g);(omega);rintro e R ⟨rfl,h⟩;replace h:=aj (af (ae _) 1) h;have t:=aj C h;replace g:=g.belw h)
   | (go_at_call 159;(with_reducible refine (dc _ b A n c l ?_ ?_).mono ?_);(exact g);(omega);rintro e U ⟨y,N,c1,rfl,k,j⟩;have K:=aj t j;replace g:=g.belw j)
   | (go_at_call 129;(with_reducible refine (de _ (!WD.s ⟨b,l⟩) y N c1 (WD.m ⟨b,l⟩) (-WD.z ⟨b,l⟩) ?_ ?_ ?_).mono ?_);(exact k);(exact Nat.le_trans (k.m_len (by rw [<- H.out];exact J)) (by decide));(exact (Ct _).symm);rintro e S ⟨M,P,c2,rfl,r,i⟩;have o:=aj K i;replace g:=g.belw i;replace k:=k.belw i;obtain ⟨⟨sc,T⟩,D,sz⟩:=ba.of (by omega) f p o))
 clear d;go_wp2_with fail;refine bodyPost_ret (v:=.agg #[.bool _,.slice M P c2]) (by simp [results,Tryz.results126,go_sem,D];rfl) rfl ?_;have x:=O.below o;refine gR ?_ ?_ ?_
 ·rfl
 ·exact r.keep (kp2 x (by decide) _ _ _ _)
 exact ((b0.trans (o.mono b0.size)).setCell (by dsimp only;omega) _).setCell (by dsimp only;omega) _
theorem Be (w:World) (b:Bool) (A n c l) (d:Wd w A n c l) (hn:n<=1099511627000) (u:Bool) (A' n' c' l') (g:Wd w A' n' c' l') (ab:n'<=1099511627000) :
 Calls Tryz.prog 197 #[.agg #[.bool b,.slice A n c],.agg #[.bool u,.slice A' n' c']] w (gP w (wh (WD.z ⟨b,l⟩+WD.z ⟨u,l'⟩))):=by
 have HL:=Qh d.2.1;have ac:=Qh g.2.1;go_in;go_wp2_with fail;have b0:Below w.heap.size w (((w.alloc (.cells #[.bool b,.slice A n c] 134)).alloc (.cells #[.bool u,.slice A' n' c'] 134)).alloc (.cells #[.bool false,.slice none 0 0] 134)):=((((Below.refl _ _).alloc Qr _).alloc (by simp) _).alloc (by simp;omega) _);generalize h:(((w.alloc (.cells #[.bool b,.slice A n c] 134)).alloc (.cells #[.bool u,.slice A' n' c'] 134)).alloc (.cells #[.bool false,.slice none 0 0] 134))=W0 at b0 ⊢;have a1:W0.cell? ⟨w.heap.size,0,none⟩=some (.bool b):=by subst h;simp [go_sem]
 have ao:W0.frozen? ⟨w.heap.size,0,none⟩=false:=by subst h;simp [go_sem]
 have a3:W0.cell? ⟨w.heap.size,1,none⟩=some (.slice A n c):=by subst h;simp [go_sem]
 have a0:W0.frozen? ⟨w.heap.size,1,none⟩=false:=by subst h;simp [go_sem]
 have al:W0.cell? ⟨w.heap.size+1,0,none⟩=some (.bool u):=by subst h;simp [go_sem]
 have aC:W0.frozen? ⟨w.heap.size+1,0,none⟩=false:=by subst h;simp [go_sem]
 have aS:W0.cell? ⟨w.heap.size+1,1,none⟩=some (.slice A' n' c'):=by subst h;simp [go_sem]
 have an:W0.frozen? ⟨w.heap.size+1,1,none⟩=false:=by subst h;simp [go_sem]
 have a4:W0.cell? ⟨w.heap.size+1+1,0,none⟩=some (.bool false):=by subst h;simp [go_sem]
 have aT:W0.frozen? ⟨w.heap.size+1+1,0,none⟩=false:=by subst h;simp [go_sem]
 have a2:W0.cell? ⟨w.heap.size+1+1,1,none⟩=some (.slice none 0 0):=by subst h;simp [go_sem]
 have ad:W0.frozen? ⟨w.heap.size+1+1,1,none⟩=false:=by subst h;simp [go_sem]
 have x0:Box W0 w.heap.size 134:=by subst h;exact ((bG _ _ _ (by simp)).alloc _).alloc _
 have x1:Box W0 (w.heap.size+1) 134:=by subst h;exact (bG _ _ _ (by simp)).alloc _
 have x2:Box W0 (w.heap.size+1+1) 134:=by subst h;exact bG _ _ _ (by simp)
 have p:ji (w.heap.size+1+1) (w.heap.size+1+1+1) 2 W0:=by subst h;exact lu (by simp)
 have o:w.heap.size+1+1+1<=W0.heap.size:=by subst h;simp
 clear h;have d:=d.belw b0;have g:=g.belw b0;have r0:Below W0.heap.size W0 W0:=ae _
 go_region_held3 (fun w'=>ba (w.heap.size+1+1) (w.heap.size+1+1+1) 2 W0 w') (first | exact ba.of (by omega) o p (by assumption) | exact ba.of (by omega) o p (af (by assumption) _))
  (first
   | (go_at_call 159;(with_reducible refine (dc _ b A n c l ?_ ?_).mono ?_);(exact d);(omega);rintro e w1 ⟨W,R,c1,rfl,f,I⟩;replace I:=aj (af (ae _) 1) I;have r1:=aj r0 I;replace d:=d.belw I;replace g:=g.belw I)
   | (go_at_call 159;(with_reducible refine (dc _ u A' n' c' l' ?_ ?_).mono ?_);(exact g);(omega);rintro e w2 ⟨A2,O,c2,rfl,j,K⟩;have r2:=aj r1 K;replace d:=d.belw K;replace g:=g.belw K;replace f:=f.belw K))
 obtain ⟨⟨sc,y⟩,t,sz⟩:=ba.of (by omega) o p r2;clear sc y t sz;go_wp2_with fail
 go_region_held3 (fun w'=>ba (w.heap.size+1+1) (w.heap.size+1+1+1) 2 W0 w') (first | exact ba.of (by omega) o p (by assumption) | exact ba.of (by omega) o p (af (by assumption) _))
  (first
   | (go_at_call 160;(with_reducible refine (dD _ b A n c l ?_ ?_).mono ?_);(exact d);(omega);rintro e w3 ⟨rfl,B⟩;replace B:=aj (af (ae _) 1) B;have r3:=aj r2 B;replace d:=d.belw B;replace g:=g.belw B;replace f:=f.belw B;replace j:=j.belw B)
   | (go_at_call 160;(with_reducible refine (dD _ u A' n' c' l' ?_ ?_).mono ?_);(exact g);(omega);rintro e w4 ⟨rfl,H⟩;have r4:=aj r3 H;replace d:=d.belw H;replace g:=g.belw H;replace f:=f.belw H;replace j:=j.belw H))
 obtain ⟨⟨sc,y⟩,t,sz⟩:=ba.of (by omega) o p r4;have E:aZ (WD.m ⟨b,l⟩):=WD.canon_m d.1;have C:aZ (WD.m ⟨u,l'⟩):=WD.canon_m g.1;have U:R<=1099511627000:=f.m_len (by rw [<- HL.out];exact hn);have Z:O<=1099511627000:=j.m_len (by rw [<- ac.out];exact ab);by_cases Q:WD.s ⟨b,l⟩=WD.s ⟨u,l'⟩
 ·have F:(WD.s ⟨b,l⟩==WD.s ⟨u,l'⟩)=true:=by simp [Q]
  have N:=Qh (xH Q);clear Q;rw [F];clear F
  go_wp2_with (first
   | (go_at_call 160;(with_reducible refine (dD _ b A n c l ?_ ?_).mono ?_);(exact d);(omega);rintro e w5 ⟨rfl,q⟩;have P:=aj r4 q;replace d:=d.belw q;replace g:=g.belw q;replace f:=f.belw q;replace j:=j.belw q;(try clear sc y t sz);obtain ⟨⟨sc,y⟩,t,sz⟩:=ba.of (by omega) o p P)
   | (go_at_call 163;(with_reducible refine (mw _ W R c1 (WD.m ⟨b,l⟩) ?_ ?_ A2 O c2 (WD.m ⟨u,l'⟩) ?_ ?_).mono ?_);(exact f);(omega);(exact j);(omega);rintro e w6 ⟨X,V,c3,rfl,D,k⟩;have L:=aj P k;replace d:=d.belw k;replace g:=g.belw k;replace f:=f.belw k;replace j:=j.belw k;(try clear sc y t sz);obtain ⟨⟨sc,y⟩,t,sz⟩:=ba.of (by omega) o p L)
   | (go_at_call 129;(with_reducible refine (jK _ (WD.s ⟨b,l⟩) X V c3 (ap (val (WD.m ⟨b,l⟩)+val (WD.m ⟨u,l'⟩))) ?_ ?_).mono ?_);(exact D);(rw [D.2.1];exact qI f j U Z (by decide));rintro e w7 ⟨Y,n4,c4,rfl,M,i⟩;have J:=aj L i;replace d:=d.belw i;replace g:=g.belw i;replace f:=f.belw i;replace j:=j.belw i;replace D:=D.belw i;(try clear sc y t sz);obtain ⟨⟨sc,y⟩,t,sz⟩:=ba.of (by omega) o p J))
  rw [ah,<- N.out] at M;refine bodyPost_ret (v:=.agg #[.bool _,.slice Y n4 c4]) (by simp [results,Tryz.results197,go_sem,t];rfl) rfl ?_;have x:=x2.below J;refine gR ?_ ?_ ?_
  ·rw [N.out,ah]
  ·exact M.keep (kp2 x (by decide) _ _ _ _)
  exact ((b0.trans (J.mono b0.size)).setCell (by dsimp only;omega) _).setCell (by dsimp only;omega) _
 have F:(WD.s ⟨b,l⟩==WD.s ⟨u,l'⟩)=false:=by simp [Q]
 rw [F];clear F;by_cases T:val (WD.m ⟨u,l'⟩)<=val (WD.m ⟨b,l⟩)
 ·have hd:decide ((0:Int)<=bH (val (WD.m ⟨b,l⟩)) (val (WD.m ⟨u,l'⟩)))=true:=by simp [lK,T]
  have N:=Qh (xI (a:=⟨b,l⟩) (b:=⟨u,l'⟩) Q T);have HV:=Qh T;clear Q T;have G:O<=R:=pk j f C E (HV.out)
  go_wp2_with (first
   | (go_at_call 192;(with_reducible refine (lx _ W R c1 (WD.m ⟨b,l⟩) ?_ ?_ A2 O c2 (WD.m ⟨u,l'⟩) ?_ ?_ E C).mono ?_);(exact f);(omega);(exact j);(omega);rintro e w5 ⟨rfl,q⟩;have P:=aj r4 q;replace d:=d.belw q;replace g:=g.belw q;replace f:=f.belw q;replace j:=j.belw q;(try clear sc y t sz);obtain ⟨⟨sc,y⟩,t,sz⟩:=ba.of (by omega) o p P)
   | (go_at_call 160;(with_reducible refine (dD _ b A n c l ?_ ?_).mono ?_);(exact d);(omega);rintro e w6 ⟨rfl,k⟩;have L:=aj P k;replace d:=d.belw k;replace g:=g.belw k;replace f:=f.belw k;replace j:=j.belw k;(try clear sc y t sz);obtain ⟨⟨sc,y⟩,t,sz⟩:=ba.of (by omega) o p L)
   | (go_at_call 164;(with_reducible refine (ox _ W R c1 (WD.m ⟨b,l⟩) ?_ ?_ A2 O c2 (WD.m ⟨u,l'⟩) ?_ ?_ ?_).mono ?_);(exact f);(omega);(exact j);(exact G);(exact HV.out);rintro e w7 ⟨X,V,c3,rfl,D,i⟩;have J:=aj L i;replace d:=d.belw i;replace g:=g.belw i;replace f:=f.belw i;replace j:=j.belw i;(try clear sc y t sz);obtain ⟨⟨sc,y⟩,t,sz⟩:=ba.of (by omega) o p J)
   | (go_at_call 129;(with_reducible refine (jK _ (WD.s ⟨b,l⟩) X V c3 (ap (val (WD.m ⟨b,l⟩)-val (WD.m ⟨u,l'⟩))) ?_ ?_).mono ?_);(exact D);(rw [D.2.1];exact pl (Nat.lt_of_le_of_lt (Nat.sub_le _ _) (f.vlt U)) (by decide));rintro e w8 ⟨Y,n4,c4,rfl,M,r⟩;have S:=aj J r;replace d:=d.belw r;replace g:=g.belw r;replace f:=f.belw r;replace j:=j.belw r;replace D:=D.belw r;(try clear sc y t sz);obtain ⟨⟨sc,y⟩,t,sz⟩:=ba.of (by omega) o p S))
  rw [ah,<- N.out] at M;refine bodyPost_ret (v:=.agg #[.bool _,.slice Y n4 c4]) (by simp [results,Tryz.results197,go_sem,t];rfl) rfl ?_;have x:=x2.below S;refine gR ?_ ?_ ?_
  ·rw [N.out,ah]
  ·exact M.keep (kp2 x (by decide) _ _ _ _)
  exact ((b0.trans (S.mono b0.size)).setCell (by dsimp only;omega) _).setCell (by dsimp only;omega) _
 have hd:decide ((0:Int)<=bH (val (WD.m ⟨b,l⟩)) (val (WD.m ⟨u,l'⟩)))=false:=by simp [lK];omega
 have N:=Qh (xJ (a:=⟨b,l⟩) (b:=⟨u,l'⟩) Q (by omega));have HV:=Qh T;clear Q T;have G:R<=O:=pk f j E C (Nat.le_of_not_le HV.out)
 go_wp2_with (first
  | (go_at_call 192;(with_reducible refine (lx _ W R c1 (WD.m ⟨b,l⟩) ?_ ?_ A2 O c2 (WD.m ⟨u,l'⟩) ?_ ?_ E C).mono ?_);(exact f);(omega);(exact j);(omega);rintro e w5 ⟨rfl,q⟩;have P:=aj r4 q;replace d:=d.belw q;replace g:=g.belw q;replace f:=f.belw q;replace j:=j.belw q;(try clear sc y t sz);obtain ⟨⟨sc,y⟩,t,sz⟩:=ba.of (by omega) o p P)
  | (go_at_call 160;(with_reducible refine (dD _ u A' n' c' l' ?_ ?_).mono ?_);(exact g);(omega);rintro e w6 ⟨rfl,k⟩;have L:=aj P k;replace d:=d.belw k;replace g:=g.belw k;replace f:=f.belw k;replace j:=j.belw k;(try clear sc y t sz);obtain ⟨⟨sc,y⟩,t,sz⟩:=ba.of (by omega) o p L)
  | (go_at_call 164;(with_reducible refine (ox _ A2 O c2 (WD.m ⟨u,l'⟩) ?_ ?_ W R c1 (WD.m ⟨b,l⟩) ?_ ?_ ?_).mono ?_);(exact j);(omega);(exact f);(exact G);(exact Nat.le_of_not_le HV.out);rintro e w7 ⟨X,V,c3,rfl,D,i⟩;have J:=aj L i;replace d:=d.belw i;replace g:=g.belw i;replace f:=f.belw i;replace j:=j.belw i;(try clear sc y t sz);obtain ⟨⟨sc,y⟩,t,sz⟩:=ba.of (by omega) o p J)
  | (go_at_call 129;(with_reducible refine (jK _ (WD.s ⟨u,l'⟩) X V c3 (ap (val (WD.m ⟨u,l'⟩)-val (WD.m ⟨b,l⟩))) ?_ ?_).mono ?_);(exact D);(rw [D.2.1];exact pl (Nat.lt_of_le_of_lt (Nat.sub_le _ _) (j.vlt Z)) (by decide));rintro e w8 ⟨Y,n4,c4,rfl,M,r⟩;have S:=aj J r;replace d:=d.belw r;replace g:=g.belw r;replace f:=f.belw r;replace j:=j.belw r;replace D:=D.belw r;(try clear sc y t sz);obtain ⟨⟨sc,y⟩,t,sz⟩:=ba.of (by omega) o p S))
 rw [ah,<- N.out] at M;refine bodyPost_ret (v:=.agg #[.bool _,.slice Y n4 c4]) (by simp [results,Tryz.results197,go_sem,t];rfl) rfl ?_;have x:=x2.below S;refine gR ?_ ?_ ?_
 ·rw [N.out,ah]
 ·exact M.keep (kp2 x (by decide) _ _ _ _)
 exact ((b0.trans (S.mono b0.size)).setCell (by dsimp only;omega) _).setCell (by dsimp only;omega) _
theorem Db (w:World) (i:Int) (o:-9223372036854775808<=i) (h:i<9223372036854775808) :
 Calls Tryz.prog 87 #[.int .i64 i] w (gP w (wh i)):=by
 obtain ⟨v,p⟩:∃ v:Nat,v=i.natAbs:=⟨_,rfl⟩;have b:v<18446744073709551616:=by omega
 have a:val [v%4294967296,v/4294967296]=v:=by simp [val];omega
 have q:=Qh a;by_cases c:i<0
 ·have t:IntKind.u64.wrap i=i+18446744073709551616:=by unfold IntKind.wrap;simp [IntKind.bits,IntKind.signed];omega
  have z:IntKind.u64.wrap (-(i+18446744073709551616))=(v:Int):=by unfold IntKind.wrap;simp [IntKind.bits,IntKind.signed];omega
  have u:decide (i<0)=true:=by simp;omega
  have y:IntKind.u32.wrap (v:Int)=((v%4294967296:Nat):Int):=by unfold IntKind.wrap;simp [IntKind.bits,IntKind.signed]
  have r:IntKind.u32.wrap ((v:Int)/4294967296)=((v/4294967296:Nat):Int):=by unfold IntKind.wrap;simp [IntKind.bits,IntKind.signed];omega
  have n:=Qh (show sgn true v=i by simp [sgn];omega);have f:=Qh b;clear p a b c o h;go_in;go_wp2_with (go_at_call 129;refine (de _ true (some ⟨w.heap.size+1,0,none⟩) 2 2 [v%4294967296,v/4294967296] i ?_ ?_ ?_).mono ?_;(exact jI (w.alloc _) _ (by simp) _ _ v (by simp) (by simp) f.out);(omega);(rw [q.out];exact n.out);rintro e j ⟨l,m,c1,rfl,h,hb⟩;obtain ⟨k,s⟩:=cl hb);have d:j.cell? ⟨w.heap.size,0,none⟩=some (.bool false):=(k w.heap.size 0 (by simp;omega)).trans (by simp [go_sem]);have g:j.cell? ⟨w.heap.size,1,none⟩=some (.slice none 0 0):=(k w.heap.size 1 (by simp;omega)).trans (by simp [go_sem]);refine bodyPost_ret (v:=.agg #[.bool _,.slice l m c1]) (by simp [results,Tryz.results87,go_sem,d,g];rfl) rfl ?_;have x:=((bG w #[.bool false,.slice none 0 0] 134 rfl).alloc _).below hb;refine gR ?_ ?_ ?_
  ·rfl
  ·exact h.keep (kp2 x (by decide) _ _ _ _)
  exact ((((((Below.refl _ _).alloc Qr _).alloc (by simp) _).trans (hb.mono (by simp;omega)))).setCell (by dsimp only;omega) _).setCell (by dsimp only;omega) _
 have t:IntKind.u64.wrap i=(v:Int):=by unfold IntKind.wrap;simp [IntKind.bits,IntKind.signed];omega
 have u:decide (i<0)=false:=by simp;omega
 have y:IntKind.u32.wrap (v:Int)=((v%4294967296:Nat):Int):=by unfold IntKind.wrap;simp [IntKind.bits,IntKind.signed]
 have r:IntKind.u32.wrap ((v:Int)/4294967296)=((v/4294967296:Nat):Int):=by unfold IntKind.wrap;simp [IntKind.bits,IntKind.signed];omega
 have n:=Qh (show sgn false v=i by simp [sgn];omega);have f:=Qh b;clear p a b c o h;go_in;go_wp2_with (go_at_call 129;refine (de _ false (some ⟨w.heap.size+1,0,none⟩) 2 2 [v%4294967296,v/4294967296] i ?_ ?_ ?_).mono ?_;(exact jI (w.alloc _) _ (by simp) _ _ v (by simp) (by simp) f.out);(omega);(rw [q.out];exact n.out);rintro e j ⟨l,m,c1,rfl,h,hb⟩;obtain ⟨k,s⟩:=cl hb);have d:j.cell? ⟨w.heap.size,0,none⟩=some (.bool false):=(k w.heap.size 0 (by simp;omega)).trans (by simp [go_sem]);have g:j.cell? ⟨w.heap.size,1,none⟩=some (.slice none 0 0):=(k w.heap.size 1 (by simp;omega)).trans (by simp [go_sem]);refine bodyPost_ret (v:=.agg #[.bool _,.slice l m c1]) (by simp [results,Tryz.results87,go_sem,d,g];rfl) rfl ?_;have x:=((bG w #[.bool false,.slice none 0 0] 134 rfl).alloc _).below hb;refine gR ?_ ?_ ?_
 ·rfl
 ·exact h.keep (kp2 x (by decide) _ _ _ _)
 exact ((((((Below.refl _ _).alloc Qr _).alloc (by simp) _).trans (hb.mono (by simp;omega)))).setCell (by dsimp only;omega) _).setCell (by dsimp only;omega) _
theorem qV (w:World) (b:Bool) (A n c l) (g:Wd w A n c l) (D:n<=1099511627000) :
 Calls Tryz.prog 125 #[.agg #[.bool b,.slice A n c]] w (ax w (.int .i64 (WD.z ⟨b,l⟩).sign)):=by
 have h:=WD.z_eq ⟨b,l⟩;have a:aZ (WD.m ⟨b,l⟩):=WD.canon_m g.1;by_cases f:WD.m ⟨b,l⟩=[]
 ·have t:=Qh (show (WD.z ⟨b,l⟩).sign=0 by rw [h,f];cases WD.s ⟨b,l⟩ <;> rfl)
  have k:=Qh f;clear h f a;go_in;go_wp2_with fail;refine (dc _ b A n c l ?_ ?_).mono ?_;(exact g.keep ((Kp.refl _).alloc _));(omega);rintro e j ⟨u,i,c1,rfl,o,hb⟩;have d:i=0:=by rw [o.2.1,k.out];rfl
  subst d;go_wp2;go_ret;exact cM t.out.symm (((Below.refl _ _).alloc Qr _).trans (hb.mono (by simp)))
 obtain ⟨s,p⟩:∃ s,WD.s ⟨b,l⟩=s:=⟨_,rfl⟩;have B:val (WD.m ⟨b,l⟩)≠0:=fun e=>f ((cW a).1 e)
 have t:=Qh (show (WD.z ⟨b,l⟩).sign=if s then -1 else 1 by
  rw [h,p];cases s
  ·simp only [sgn];exact Int.sign_eq_one_of_pos (by simp;omega)
  simp only [sgn];exact Int.sign_eq_neg_one_of_neg (by simp;omega))
 have k:=Qh f;have v:=Qh p;clear h f a p B;go_in;go_wp2_with fail;refine (dc _ b A n c l ?_ ?_).mono ?_;(exact g.keep ((Kp.refl _).alloc _));(omega);rintro e j ⟨u,i,c1,rfl,o,hb⟩;have d:i≠0:=fun e=>k.out (List.eq_nil_of_length_eq_zero (by rw [<- o.2.1,e]))
 have C:((i:Int)==0)=false:=by simp;omega
 have q:Below w.heap.size w j:=((Below.refl _ _).alloc Qr _).trans (hb.mono (by simp));have x:Blk j w.heap.size 134 #[.bool b,.slice A n c]:=(ak w _ _ rfl).below hb (by simp);have y:=x.c2;clear hb d;go_wp2_with fail;refine (dD _ b A n c l ?_ ?_).mono ?_;(exact g.belw q);(omega);rintro e E ⟨rfl,r⟩;rw [v.out];cases s
 all_goals
  go_wp2;go_ret;exact cM t.out.symm (q.trans (r.mono q.size))
theorem yn (x y:Int):(x+-y).sign=da x y:=by
 unfold da;rcases Int.lt_trichotomy x y with h | h | h
 ·rw [if_pos h];exact Int.sign_eq_neg_one_of_neg (by omega)
 ·subst h;simp [show x+-x=0 by omega]
 rw [if_neg (by omega),if_neg (by omega)];exact Int.sign_eq_one_of_pos (by omega)
section
variable (w:World) (b A n c z k) (h:IZ w b A n c z k) (b' A' n' c' z' k') (h':IZ w b' A' n' c' z' k')
include h
theorem lL (d:k<=1000000000):Calls Tryz.prog 126 #[.agg #[.bool b,.slice A n c]] w (jj w (-z) k):=by
 have g:=h.lt;obtain ⟨l,a,rfl,f⟩:=h;exact (Bc w b A n c l a (by omega)).mono fun _ _ r=>r.i (by omega)
theorem mz (d:k<=1000000000):Calls Tryz.prog 125 #[.agg #[.bool b,.slice A n c]] w (ax w (.int .i64 z.sign)):=by
 obtain ⟨l,a,rfl,f⟩:=h;exact qV w b A n c l a (by omega)
include h'
theorem uh (o:k+k'<=1000000000):Calls Tryz.prog 197 #[.agg #[.bool b,.slice A n c],.agg #[.bool b',.slice A' n' c']] w (jj w (z+z') (k+k'+1)):=by
 have m:=h.mono (Nat.le_add_right k k') |>.lt
 have a:=h'.mono (Nat.le_add_left k' k) |>.lt
 obtain ⟨l,g,rfl,p⟩:=h;obtain ⟨f,d,rfl,j⟩:=h';exact (Be w b A n c l g (by omega) b' A' n' c' f d (by omega)).mono fun _ _ r=>r.i (fv m a)
end
theorem Dc (w:World) (i:Int) (k:Nat) (b:-9223372036854775808<=i) (a:i<9223372036854775808) (c:i.natAbs<4294967296^k):Calls Tryz.prog 87 #[.int .i64 i] w (jj w i k) :=
 (Db w i b a).mono fun _ _ r=>r.i c
theorem ui (w:World) (i:Int) (b:-4294967296<i) (a:i<4294967296):Calls Tryz.prog 87 #[.int .i64 i] w (jj w i 1):=Dc w i 1 (by omega) (by omega) (by omega)
theorem Bf (w:World) (b A n c z k) (h:IZ w b A n c z k) (b' A' n' c' z' k') (q:IZ w b' A' n' c' z' k') (T:k+k'<=1000000000) :
 Calls Tryz.prog 166 #[.agg #[.bool b,.slice A n c],.agg #[.bool b',.slice A' n' c']] w (jj w (z+-z') (k+k'+1)):=by
 go_in;go_wp2_with fail;have p1:=((((Kp.refl w).alloc (.cells #[.bool b,.slice A n c] 134)).alloc (.cells #[.bool b',.slice A' n' c'] 134)).alloc (.cells #[.bool false,.slice none 0 0] 134));have p:=((((ae w).alloc (by first | omega | (simp <;> omega)) (.cells #[.bool b,.slice A n c] 134)).alloc (by first | omega | (simp <;> omega)) (.cells #[.bool b',.slice A' n' c'] 134)).alloc (by first | omega | (simp <;> omega)) (.cells #[.bool false,.slice none 0 0] 134));have m:Blk (((w.alloc (.cells #[.bool b,.slice A n c] 134)).alloc (.cells #[.bool b',.slice A' n' c'] 134)).alloc (.cells #[.bool false,.slice none 0 0] 134)) w.heap.size 134 #[.bool b,.slice A n c]:=(((ak _ _ _ (by simp)).alloc (.cells #[.bool b',.slice A' n' c'] 134)).alloc (.cells #[.bool false,.slice none 0 0] 134));have j:Blk (((w.alloc (.cells #[.bool b,.slice A n c] 134)).alloc (.cells #[.bool b',.slice A' n' c'] 134)).alloc (.cells #[.bool false,.slice none 0 0] 134)) (w.heap.size+1) 134 #[.bool b',.slice A' n' c']:=((ak _ _ _ (by simp)).alloc (.cells #[.bool false,.slice none 0 0] 134));have a:Blk (((w.alloc (.cells #[.bool b,.slice A n c] 134)).alloc (.cells #[.bool b',.slice A' n' c'] 134)).alloc (.cells #[.bool false,.slice none 0 0] 134)) (w.heap.size+1+1) 134 #[.bool false,.slice none 0 0]:=(ak _ _ _ (by simp));have K:w.heap.size+3<=(((w.alloc (.cells #[.bool b,.slice A n c] 134)).alloc (.cells #[.bool b',.slice A' n' c'] 134)).alloc (.cells #[.bool false,.slice none 0 0] 134)).heap.size:=by simp
 generalize I:(((w.alloc (.cells #[.bool b,.slice A n c] 134)).alloc (.cells #[.bool b',.slice A' n' c'] 134)).alloc (.cells #[.bool false,.slice none 0 0] 134))=w1 at p1 p K m j a ⊢;clear I;replace h:=h.keep p1;replace q:=q.keep p1;have D:=m.c2;have E:=jh m.lt;have x:=j.c2;have B:=sM j.lt;obtain ⟨f,d⟩:=a.c2;obtain ⟨i,g⟩:=a.f2;have C:=xE a.lt;have t:¬ w.heap.size=w.heap.size+1+1:=by omega
 have s:¬ w.heap.size=w.heap.size+2:=by omega
 have r:¬ w.heap.size+1=w.heap.size+1+1:=by omega
 have u:¬ w.heap.size=w.heap.size+1:=by omega
 go_region_held3 (fun M=>SeesX w1.heap.size (w.heap.size+1+1) w1 M) (first | with_reducible exact SeesX.of Qr (by assumption) | with_reducible exact SeesX.of Qr (ae _).drew | with_reducible exact (SeesX.set (SeesX.set (SeesX.of Qr (by assumption)))) | with_reducible exact (SeesX.set (SeesX.of Qr (by assumption))) | exact SeesX.of Qr (af (ae _) 1) | exact SeesX.of Qr (af (by assumption) _))
  (first
   | (go_at_call 126;(with_reducible refine (lL _ b' A' n' c' (z') (k') ?_ ?_).mono ?_);(exact q);(omega);rintro e R ⟨O,Q,S,c2,rfl,H,l⟩;replace l:=aj (af (ae _) 1) l;have q2:Below w1.heap.size w1 R:=aj (ae w1) l;replace h:=h.belw l;replace q:=q.belw l)
   | (go_at_call 197;(with_reducible refine (uh _ b A n c (z) (k) ?_ O Q S c2 (-(z')) ((k')) ?_ ?_).mono ?_);(exact h);(exact H.iz);(omega);rintro e L ⟨y,G,F,c3,rfl,P,o⟩;have q3:Below w1.heap.size w1 L:=aj q2 o;replace h:=h.belw o;replace q:=q.belw o;replace H:=H.belw o;have a:=a.b q3;obtain ⟨f,d⟩:=a.c2;obtain ⟨i,g⟩:=a.f2))
 have J:=p.trans (q3.mono p.size);clear D E x B f i d g C;replace m:=m.b q3;replace j:=j.b q3;have N:=q3.size;obtain ⟨f,d⟩:=a.c2;obtain ⟨i,g⟩:=a.f2;go_wp2_with fail;refine bodyPost_ret (v:=.agg #[.bool y,.slice G F c3]) (by simp [results,Tryz.results166,go_sem, *] <;> trivial) rfl ?_;exact ⟨y,G,F,c3,rfl,P.keep (((Kp.refl L).sb (w.heap.size+1+1) 0 a.box (by decide) (.bool y)).sb (w.heap.size+1+1) 1 (a.box.set ⟨w.heap.size+1+1,0,none⟩ (.bool y)) (by decide) (.slice G F c3)),((J.sc (w.heap.size+1+1) 0 (by omega) (.bool y)).sc (w.heap.size+1+1) 1 (by omega) (.slice G F c3))⟩
theorem Bg (w:World) (b A n c z k) (h:IZ w b A n c z k) (b' A' n' c' z' k') (i:IZ w b' A' n' c' z' k') (u:k+k'<=999999999) :
 Calls Tryz.prog 131 #[.agg #[.bool b,.slice A n c],.agg #[.bool b',.slice A' n' c']] w (ax w (.int .i64 (da z z'))):=by
 go_in;go_wp2_with fail;refine (Bf _ b A n c (z) (k) ?_ b' A' n' c' (z') (k') ?_ ?_).mono ?_;(exact (h.belw (((Below.refl _ _).alloc Qr _).alloc (by simp) _)));(exact (i.belw (((Below.refl _ _).alloc Qr _).alloc (by simp) _)));(omega);rintro e o ⟨p,q,r,c1,rfl,l,a⟩;have q1:=a.q2;replace h:=h.belw q1;replace i:=i.belw q1;have j:Blk o w.heap.size 134 #[.bool b,.slice A n c]:=((ak _ _ _ (by simp)).alloc _).below a (by simp <;> omega);have f:=(ak _ _ _ (g:=w.heap.size+1) (by simp)).below a (by simp);have d:=(ae w).trans (q1.mono (ae w).size);have t:=a.l2;clear q1;go_wp2_with fail;refine (mz _ p q r c1 ((z)+-(z')) ((k)+(k')+1) ?_ ?_).mono ?_;(exact l.iz);(omega);rintro e v ⟨rfl,q2⟩;replace h:=h.belw q2;replace i:=i.belw q2;replace l:=l.belw q2;replace j:=j.b q2;replace f:=f.b q2;have m:=d.trans (q2.mono d.size);have s:=q2.size;clear q2 d;go_wp2;go_ret;exact cM (yn _ _) m

def OwS (w:World) (B g n cap:Nat) (l:List Nat):Prop:=w.ownsRow B 173 1 (.slice (some ⟨g,0,none⟩) n cap) n (words l)/\Wds l
theorem OwS.len {w:World}{B g n cap:Nat}{l:List Nat}(h:OwS w B g n cap l):n=l.length:=by have:=h.1.1;rw [cN] at this;omega
theorem OwS.base {w:World}{B g n cap:Nat}{l:List Nat}(h:OwS w B g n cap l):B<=g:=dd h.1 g rfl
theorem OwS.toWd {w:World}{B g n cap:Nat}{l:List Nat}(h:OwS w B g n cap l):Wd w (some ⟨g,0,none⟩) n cap l:=Wd.of_own h.1 h.2
theorem OwS.cell {w:World}{B g n cap:Nat}{l:List Nat}(h:OwS w B g n cap l) (i:Nat) (a:i<n):w.cell? ⟨g,i,none⟩=some (.int .u32 (wd l i:Nat)):=by
 rw [h.1.cellAt i (by omega)];exact kL (by rw [<- h.len];exact a)
theorem OwS.frozen {w:World}{B g n cap:Nat}{l:List Nat}(h:OwS w B g n cap l) (i:Nat):w.frozen? ⟨g,i,none⟩=false:=h.1.frozenAt i
theorem OwS.lt {w:World}{B g n cap:Nat}{l:List Nat}(h:OwS w B g n cap l):g<w.heap.size:=by
 rcases h.1.2 with ⟨e,_⟩ | ⟨c,b,cur,e,_,a,_⟩
 ·cases e
 injection e with e;injection e with e;injection e with e;subst e;exact lt_of_block a
theorem OwS.cap {w:World}{B g n cap:Nat}{l:List Nat}(h:OwS w B g n cap l):n<=cap:=h.toWd.2.2.1
theorem OwS.cut {w:World}{B g n cap:Nat}{l:List Nat}(h:OwS w B g n cap l) {k:Nat}(i:k<=n):OwS w B g k cap (l.take k):=by
 have m:=h.len;refine ⟨⟨by rw [cN,List.length_take];omega,?_⟩,Wds.take h.2 k⟩;rcases h.1.2 with ⟨e,_⟩ | ⟨j,f,cur,e,hb,b,o,d,c,a⟩
 ·cases e
 injection e with e1 _ e2;injection e1 with e1;injection e1 with e1;subst e1 e2;refine .inr ⟨g,cap,cur,rfl,hb,b,by omega,d,c,?_⟩;have:words (l.take k)=(words l).take k:=by simp [words,List.map_take]
 rw [this,<- a,List.take_take];congr 1;omega
theorem vz (l:List Nat) (i x:Nat):(words l).set i (.int .u32 (x:Nat))=words (l.set i x):=by simp [words,List.map_set]
theorem OwS.set {w:World}{B g n cap:Nat}{l:List Nat}(h:OwS w B g n cap l) (i:Nat) {x:Nat}(b:x<4294967296) {z:Int}(a:z=x):OwS (w.setCell ⟨g,i,none⟩ (.int .u32 z)) B g n cap (l.set i x):=by
 subst a;refine ⟨?_,wds_set h.2 i b⟩;rw [<- vz];exact (h.1.stored i _).1
def eR (g:Nat) (w w':World):Prop:=Below g w w'/\w'.heap.size=w.heap.size/\∀ b,b≠g->w'.heap[b]?=w.heap[b]?
theorem eR.refl (g:Nat) (w:World):eR g w w:=⟨Below.refl _ _,rfl,fun _ _=>rfl⟩
theorem eR.set {g:Nat}{w a:World}(h:eR g w a) (i:Nat) (u:Value):eR g w (a.setCell ⟨g,i,none⟩ u) :=
 ⟨h.1.setCell (p:=⟨g,i,none⟩) Qr u,by rw [<- h.2.1];simp [World.setCell],fun b hb=>(Below.heap_setCell a ⟨g,i,none⟩ u b hb).trans (h.2.2 b hb)⟩
theorem eR.trans {g:Nat}{a b c:World}(h:eR g a b) (k:eR g b c):eR g a c:=⟨h.1.trans k.1,k.2.1.trans h.2.1,fun x d=>(k.2.2 x d).trans (h.2.2 x d)⟩
theorem eR.own {g:Nat}{w c:World}(h:eR g w c) {B a n cap:Nat}{l:List Nat}(k:OwS w B a n cap l) (f:a≠g):OwS c B a n cap l:=by
 refine ⟨⟨k.1.1,?_⟩,k.2⟩;rcases k.1.2 with ⟨e,_⟩ | ⟨j,d,cur,e,hb,b,r⟩
 ·cases e
 have i:=e;injection e with e1 _ e2;injection e1 with e1;injection e1 with e1;subst e1;exact .inr ⟨a,d,cur,i,hb,(h.2.2 _ f).trans b,r⟩
theorem eR.wd {g:Nat}{w b:World}(h:eR g w b) {a o n c:Nat}{l:List Nat}(k:Wd w (some ⟨a,o,none⟩) n c l) (d:a≠g):Wd b (some ⟨a,o,none⟩) n c l:=by
 refine ⟨k.1,k.2.1,k.2.2.1,fun j=>?_⟩;obtain ⟨p,i,cur,fr,e,hb,m⟩:=k.2.2.2 j;have f:=e;injection e with e1;injection e1 with e1;subst e1;exact ⟨_,i,cur,fr,f,hb.same (h.2.2 _ d),m⟩
def FG (w:World) (l:List Nat) (e:Ending) (w':World):Prop:=∃ g k cap,e=.returned (.slice (some ⟨g,0,none⟩) k cap)/\OwS w' w.heap.size g k cap l/\Below w.heap.size w w'
theorem jL (w:World) (A:Option Addr) (n c:Nat) (l:List Nat) (h:Wd w A n c l) (Z:n<=4398046511104) :
 Calls Tryz.prog 165 #[.slice A n c] w (FG w (ap (val l))):=by
 have q:=Qh h.2.1;have P:n<=c:=h.2.2.1;obtain ⟨Q,s,F,H,J⟩:=info_parts dP;by_cases r:n=0
 ·subst r
  have HE:=Qh (show ap (val l)=[] by rw [List.eq_nil_of_length_eq_zero q.out.symm];exact az);clear h Z;go_in;go_wp2_with (at_builtin;refine eu rfl _ _ _ rfl 173 Q Tryz.underlying52 s _ _ _ rfl rfl ?_);go_loop [3] (fun v=>v=.slice (some ⟨w.heap.size,0,none⟩) 0 0) (fun _=>0)
  case atStart=>rfl
  case round =>
   subst hrel;go_wp2;go_ret;refine ⟨_,_,_,rfl,?_,(Below.refl _ _).alloc Qr _⟩;rw [HE.out];exact ⟨World.ownsRow_lit (e:=173) (size:=1) w #[] 0 Qr (by simp [maxLen]) rfl,by simp [Wds]⟩
 obtain ⟨g,o,rfl,D⟩:=h.at_ (by omega);clear D;have hp:0<n:=by omega
 have m:=World.ownsRow_lit (e:=173) (size:=1) w #[] 0 Qr (by simp [maxLen]) rfl;have d:=(h.keep ((Kp.refl w).alloc (.cells #[] 173))).news (by omega) Qr;have u:(words (l.take n)).length=n*1:=by rw [cN,List.length_take,<- q.out];omega
 have R:=Qh m;have S:=Qh d;have t:=Qh u;have C:=Qh h.1;clear m d u h r;go_in;go_wp2_with (at_builtin;refine wpList_append_lies _ rfl _ _ _ rfl w.heap.size 173 Q (.int .u32 0) 1 4 Tryz.underlying52 s F H J rfl (by omega) _ 0 [] rfl R.out ⟨g,o,none⟩ n c (words (l.take n)) rfl t.out S.out (fL _) (by omega) (by unfold maxLen;omega) (by omega) (by simp) (w.heap.size+1) (by simp) ?_;intro T cap X a f G M);simp only [Nat.zero_add,List.nil_append] at a;have j:=Wd.of_own a (Wds.take C.out n);rw [List.take_of_length_le (Nat.le_of_eq q.out.symm)] at j;have p:=((Below.refl w.heap.size w).alloc Qr (.cells #[] 173)).grown f (by simp) (fun b hb=>Nat.le_of_eq (Option.some.inj hb));have y:=Qh j;rw [List.take_of_length_le (Nat.le_of_eq q.out.symm)] at a;have z:=Qh (show OwS X w.heap.size T n cap l from ⟨a,C.out⟩);have O:=Qh p;have K:n<=cap:=j.2.2.1;clear a f G j p R S t;go_loop [3] (fun v=>∃ k:Nat,k<=n/\v=.slice (some ⟨T,0,none⟩) k cap/\tX l k) (fun v=>match v with | .slice _ k _=>k | _=>0)
 case atStart=>exact ⟨n,Qr,by simp,fun i U=>eM (by rw [<- q.out];exact U)⟩
 case round =>
  obtain ⟨k,N,rfl,B⟩:=hrel;by_cases r:k=0
  ·subst r
   have E:=Qh B;clear B;go_wp2;go_ret;refine ⟨_,_,_,rfl,?_,O.out⟩;have:=bR C.out (Nat.zero_le _) E.out (.inl rfl);rw [this];exact z.out.cut (Nat.zero_le _)
  have ac:0<k:=by omega
  obtain ⟨g',o',e,D⟩:=y.out.at_ (by omega);injection e with e;injection e with e1 e2;subst e1 e2;have L:=D (k-1) (by omega);rw [Nat.zero_add] at L;have Y:=y.out.lt (k-1);have E:=Qh B;generalize V:wd l (k-1)=x at *;have W:=Qh V;clear D r B V;by_cases I:x=0
  ·subst I
   go_wp2;go_round
   case rel=>exact ⟨k-1,by omega,rfl,fun i U=>by
    by_cases he:i=k-1
    ·subst he;exact W.out
    exact E.out i (by omega)⟩
   case measure=>dsimp only;omega
  have ab:((x:Int)==0)=false:=by simp;omega
  have HZ:=Qh I;clear I;go_wp2;go_ret;have hd:=bR C.out (by rw [<- q.out];exact N) E.out (.inr (by rw [W.out];exact HZ.out));refine ⟨_,_,_,rfl,?_,O.out⟩;rw [hd];exact z.out.cut N
def FH (w:World) (B g cap:Nat) (l:List Nat) (e:Ending) (w':World):Prop:=∃ k,e=.returned (.slice (some ⟨g,0,none⟩) k cap)/\OwS w' B g k cap l/\w=w'
theorem jM (w:World) (B g n cap:Nat) (l:List Nat) (h:OwS w B g n cap l) (A:n<=4398046511104) :
 Calls Tryz.prog 194 #[.slice (some ⟨g,0,none⟩) n cap] w (FH w B g cap (ap (val l))):=by
 have m:=h.cap;have o:=Qh h.len;have a:=Qh h;clear h;go_in;go_wp2_with fail;go_loop [0] (fun v=>∃ k:Nat,k<=n/\v=.slice (some ⟨g,0,none⟩) k cap/\tX l k) (fun v=>match v with | .slice _ k _=>k | _=>0)
 case atStart=>exact ⟨n,Qr,rfl,fun i p=>eM (by rw [<- o.out];exact p)⟩
 case round =>
  obtain ⟨k,j,rfl,b⟩:=hrel;by_cases f:k=0
  ·subst f
   have c:=Qh b;clear b;go_wp2;go_ret;refine ⟨_,rfl,?_,rfl⟩;have:=bR a.out.2 (Nat.zero_le _) c.out (.inl rfl);rw [this];exact a.out.cut (Nat.zero_le _)
  have z:0<k:=by omega
  have u:=a.out.cell (k-1) (by omega);have s:=bN a.out.2 (k-1);have c:=Qh b;generalize q:wd l (k-1)=x at *;have r:=Qh q;clear f b q;by_cases d:x=0
  ·subst d
   go_wp2;go_round
   case rel=>exact ⟨k-1,by omega,rfl,fun i p=>by
    by_cases he:i=k-1
    ·subst he;exact r.out
    exact c.out i (by omega)⟩
   case measure=>dsimp only;omega
  have y:((x:Int)==0)=false:=by simp;omega
  have t:=Qh d;clear d;go_wp2;go_ret;have hd:=bR a.out.2 (by rw [<- o.out];exact j) c.out (.inr (by rw [r.out];exact t.out));refine ⟨_,rfl,?_,rfl⟩;rw [hd];exact a.out.cut j

theorem yo {x y:Nat}(c:x<4294967296):(x/2 ||| y*2147483648)%4294967296=x/2+(y%2)*2147483648:=by
 have b:x/2<2^31:=by omega
 have a:y*2147483648 ||| x/2=y*2147483648+x/2:=by
  have:=Nat.shiftLeft_add_eq_or_of_lt b y;rw [Nat.shiftLeft_eq] at this;exact this.symm
 rw [Nat.or_comm,a];omega
def fB (l L:List Nat) (j:Nat):Prop:=Wds L/\L.length=l.length/\(∀ i,j<=i->wd L i=wd l i)/\2*Sm (wd L) j+wd l 0%2=Sm (wd l) j+wd l j%2*4294967296^j
theorem fB.start {l:List Nat}(h:Wds l):fB l l 0:=⟨h,rfl,fun _ _=>rfl,by simp [Sm]⟩
theorem fB.step {l L:List Nat}{j:Nat}(h:fB l L j) (g:j<l.length) (c:Wds l):fB l (L.set j (wd l j/2+(wd l (j+1)%2)*2147483648)) (j+1):=by
 obtain ⟨d,b,f,k⟩:=h;have n:=bN c j;refine ⟨wds_set d j (by omega),by rw [List.length_set];exact b,fun i m=>?_,?_⟩
 ·rw [bS,if_neg (by omega)];exact f i (by omega)
 rw [cf _ _ _ (by omega),Sm];generalize wd l j=x at *;generalize wd l (j+1)=y at *;generalize wd l 0=z at *;rw [Nat.pow_succ]
 have e:2*((x/2+y%2*2147483648)*4294967296^j)+x%2*4294967296^j=x*4294967296^j+y%2*(4294967296^j*4294967296):=by
  have a:x=2*(x/2)+x%2:=by omega
  generalize x/2=p at *;generalize x%2=r at *;subst a;generalize 4294967296^j=P
  grind
 omega
theorem fB.fin {l L:List Nat}(h:fB l L l.length):val L=val l/2:=by
 obtain ⟨c,b,d,a⟩:=h;rw [bm L (by omega),bm l Qr,eM Qr] at a;omega
theorem vB {x y:Nat}(d:x<4294967296) (f:y<4294967296) {s:Int}(a:bits .or .u64 ((x:Int)/2) ((y:Int)*2147483648)=s):IntKind.u32.wrap s=((x/2+y%2*2147483648:Nat):Int):=by
 have b:(x:Int)/2=((x/2:Nat):Int):=by omega
 have c:(y:Int)*2147483648=((y*2147483648:Nat):Int):=by simp
 rw [b,c,u64_or_nat _ _ (by omega) (by omega)] at a;subst a;rw [IntKind.wrap_u32];have:=yo (y:=y) d;omega
def FI (w:World) (B g cap:Nat) (l:List Nat) (e:Ending) (w':World):Prop:=∃ k,e=.returned (.slice (some ⟨g,0,none⟩) k cap)/\OwS w' B g k cap l/\eR g w w'
theorem eG (w:World) (B g n cap:Nat) (l:List Nat) (h:OwS w B g n cap l) (S:n<=1099511627776) :
 Calls Tryz.prog 191 #[.slice (some ⟨g,0,none⟩) n cap] w (FI w B g cap (ap (val l/2))):=by
 have D:=h.cap;have d:=h.len;have G:=Qh h.len;have v:=Qh h.2;have K:=Qh (fB.start h.2);have I:=Qh h;clear h d;go_in;go_wp2_with fail;go_loopw [6] (fun A wr=>∃ (j:Nat) (L:List Nat),j<=n/\A=.int .i64 (j:Nat)/\fB l L j/\OwS wr B g n cap L/\eR g w wr) (fun A _=>n-(intOf A).toNat)
 case atStart=>exact ⟨0,l,Nat.zero_le _,rfl,K.out,I.out,eR.refl _ _⟩
 case round =>
  obtain ⟨j,L,T,rfl,F,hw,c⟩:=hrel;have p:=Qh F;have a:=Qh hw;have f:=Qh c;clear F hw c;by_cases hlt:j<n
  ·obtain ⟨x,y,o,m⟩:∃ x y,wd l j=x/\wd l (j+1)=y:=⟨_,_,rfl,rfl⟩
   have t:x<4294967296:=by rw [<- o];exact bN v.out j
   have q:y<4294967296:=by rw [<- m];exact bN v.out (j+1)
   have Q:=Qh (show wd L j=x by rw [p.out.2.2.1 j Qr,o]);have J:=Qh (show wd L (j+1)=y by rw [p.out.2.2.1 (j+1) (by omega),m]);have i:=Qh (And.intro o m);have P:=a.out.cell j hlt;have N:=a.out.frozen j;obtain ⟨s,M⟩:∃ s,bits .or .u64 ((x:Int)/2) ((y:Int)*2147483648)=s:=⟨_,rfl⟩;have z:=vB t q M;have U:=Qh z;have E:((j:Int)+1)=((j+1:Nat):Int):=by omega
   have r:=Qh E;clear o m E
   go_wp2_with (first
    | (go_at_call 196;(with_reducible refine (bO _ (some ⟨g,0,none⟩) n cap L ?_ j x Q.out (by omega)).mono ?_);exact a.out.toWd;rintro e H ⟨rfl,rfl⟩)
    | (go_at_call 196;rw [r.out];(with_reducible refine (bO _ (some ⟨g,0,none⟩) n cap L ?_ (j+1) y J.out (by omega)).mono ?_);exact a.out.toWd;rintro e H ⟨rfl,rfl⟩))
   go_roundw
   case rel =>
    have b:=p.out.step (by rw [<- G.out];exact hlt) v.out;rw [i.out.1,i.out.2] at b;exact ⟨j+1,_,by omega,by go_num,b,a.out.set j (by omega) (by omega),f.out.set j _⟩
   case measure=>simp [intOf];omega
  have u:j=n:=by omega
  subst u;have O:=Qh (show val L=val l/2 from fB.fin (by have:=p.out;rw [G.out] at this;exact this));go_wp2_with fail;refine (jM _ B g j cap L ?_ ?_).mono ?_;(exact a.out);(omega);rintro e R ⟨k,rfl,C,rfl⟩;go_wp2;go_ret;rw [O.out] at C;exact ⟨k,rfl,C,f.out⟩

theorem eR.wd_ {g:Nat}{w b:World}(h:eR g w b) {A:Option Addr}{n c:Nat}{l:List Nat}(k:Wd w A n c l) (a:∀ ad,A=some ad->ad.block≠g):Wd b A n c l:=by
 refine ⟨k.1,k.2.1,k.2.2.1,fun j=>?_⟩;obtain ⟨d,f,cur,fr,e,hb,i⟩:=k.2.2.2 j;exact ⟨d,f,cur,fr,e,hb.same (h.2.2 _ (a _ e)),i⟩
def EK (w:World) (B g n cap:Nat) (v:Nat) (e:Ending) (w':World):Prop:=∃ L,e=.returned (.tuple #[])/\OwS w' B g n cap L/\val L=v/\eR g w w'
def EL (l l' L:List Nat) (k br:Nat):Prop:=xP l l' L k br/\L.length=l.length/\∀ i,k<=i->wd L i=wd l i
theorem gU (w:World) (B g n cap:Nat) (l:List Nat) (h:OwS w B g n cap l) (hn:n<=1099511627776) (A' n' c' l') (s:Wd w A' n' c' l') (f:∀ ad,A'=some ad->ad.block≠g) (S:n'<=n) (H:val l'<=val l) :
 Calls Tryz.prog 193 #[.slice (some ⟨g,0,none⟩) n cap,.slice A' n' c'] w (EK w B g n cap (val l-val l')):=by
 have C:=h.cap;have F:=Qh h.len;have z:=Qh s.2.1;have G:=Qh h.2;have V:=Qh H;have T:=Qh h;have o:=Qh s;have u:=Qh f;clear h H s f;go_in;go_wp2_with fail;go_loopw [4,9] (fun M A wr=>∃ (k c:Nat) (L:List Nat),k<=n/\A=.int .i64 (k:Nat)/\M=.int .u64 (c:Nat)/\c<=1/\EL l l' L k c/\OwS wr B g n cap L/\eR g w wr) (fun _ A _=>n-(intOf A).toNat)
 case atStart=>exact ⟨0,0,l,Nat.zero_le _,rfl,rfl,by omega,⟨⟨G.out,by simp [Sm]⟩,rfl,fun _ _=>rfl⟩,T.out,eR.refl _ _⟩
 case round =>
  obtain ⟨k,c,L,Y,rfl,rfl,R,D,hw,j⟩:=hrel;have b:=Qh D;have a:=Qh hw;have d:=Qh j;clear D hw j;by_cases hkM:k<n
  ·obtain ⟨x,y,p,v⟩:∃ x y,wd l k=x/\wd l' k=y:=⟨_,_,rfl,rfl⟩
   have Q:x<4294967296:=by rw [<- p];exact bN G.out k
   have K:y<4294967296:=by rw [<- v];exact o.out.lt k
   have X:=Qh (show wd L k=x by rw [b.out.2.2 k Qr,p]);have E:=Qh v;have q:=Qh p;have W:=a.out.cell k hkM;have U:=a.out.frozen k;clear p v
   go_wp2_with (first
    | (go_at_call 196;(with_reducible refine (bO _ (some ⟨g,0,none⟩) n cap L ?_ k x X.out (by omega)).mono ?_);exact a.out.toWd;rintro e I ⟨rfl,rfl⟩)
    | (go_at_call 196;(with_reducible refine (bO _ A' n' c' l' ?_ k y E.out (by omega)).mono ?_);exact d.out.wd_ o.out u.out;rintro e I ⟨rfl,rfl⟩))
   go_roundw
   case rel =>
    refine ⟨k+1,1-(4294967296+x-y-c)/4294967296,L.set k ((4294967296+x-y-c)%4294967296),by omega,by go_num,by congr 1;omega,by omega,⟨⟨wds_set b.out.1.1 _ (Nat.mod_lt _ (by omega)),?_⟩,by rw [List.length_set];exact b.out.2.1,fun i hi=>?_⟩,a.out.set k (Nat.mod_lt _ (by omega)) (by omega),d.out.set k _⟩
    ·rw [cf _ _ _ (by rw [b.out.2.1,<- F.out];exact hkM),Sm,Sm,q.out,E.out,Nat.pow_succ]
     exact kM b.out.1.2 (by omega)
    rw [bS,if_neg (by omega)];exact b.out.2.2 i (by omega)
   case measure=>simp [intOf];omega
  have r:k=n:=by omega
  subst r
  have m:val L=val l-val l':=by
   have O:=b.out.1.2;have J:=cF b.out.1.1;have Z:=V.out;have N:=b.out.2.1;have P:=F.out;rw [N,<- P] at J;rw [bm L (by omega),bm l (by omega),bm l' (by rw [<- z.out];omega)] at O;rcases (show c=0\/c=1 by omega) with rfl | rfl
   ·omega
   omega
  have t:=Qh m;clear m;go_wp2_with fail;go_end0;exact ⟨L,rfl,a.out,t.out,d.out⟩

def Two (w wr:World) (N:Nat) (va vb:Value) (x y:Nat):Prop:=∃ ga na ca gb nb cb,va=.slice (some ⟨ga,0,none⟩) na ca/\vb=.slice (some ⟨gb,0,none⟩) nb cb/\OwS wr w.heap.size ga na ca (ap x)/\OwS wr w.heap.size gb nb cb (ap y)/\ga≠gb/\Below w.heap.size w wr/\x<4294967296^N/\y<4294967296^N
theorem fk {w:World}{B g n cap x N:Nat}(h:OwS w B g n cap (ap x)) (a:x<4294967296^N):n<=N:=by rw [h.len];exact ay a
theorem df {w:World}{B g n cap x:Nat}(h:OwS w B g n cap (ap x)) (b:0<x):0<n:=by
 rw [h.len];rcases Nat.eq_zero_or_pos (ap x).length with a | a
 ·have:=bp.1 (List.eq_nil_of_length_eq_zero a);omega
 exact a
theorem yp (x:Nat):wd (ap x) 0=x%4294967296:=by
 by_cases h:x=0
 ·subst h;rw [az];rfl
 rw [fJ h];rfl
theorem fN {w:World}{B g n cap x:Nat}(h:OwS w B g n cap (ap x)) (a:0<x):w.cell? ⟨g,0,none⟩=some (.int .u32 ((x%4294967296:Nat):Int)):=by
 rw [<- yp];exact h.cell 0 (df h a)
theorem py (p:Nat) (a:p<4294967296):Go.bits .and .u32 (p:Int) 1=((p%2:Nat):Int):=by
 have:=u32_and_nat p 1 a (by decide);rw [Nat.and_one_is_mod] at this;exact this
theorem eS {p:Nat}(a:p<4294967296) (h:p%2=0):(Go.bits .and .u32 (p:Int) 1==0)=true:=by rw [py p a,h];rfl
theorem iG {p:Nat}(a:p<4294967296) (h:p%2=1):(Go.bits .and .u32 (p:Int) 1==0)=false:=by rw [py p a,h];rfl
theorem OwS.of_digs {w:World}{B g n cap v x:Nat}(h:OwS w B g n cap (ap (val (ap v)/x))):OwS w B g n cap (ap (v/x)):=by rw [ah] at h;exact h
theorem Two.left {w wr g:World}{N c t f j nb m x y u k:Nat}(o:Two w wr N (.slice (some ⟨c,0,none⟩) t f) (.slice (some ⟨j,0,none⟩) nb m) x y) (v:OwS g w.heap.size c k f (ap u)) (d:eR c wr g) (z:u<=x):Two w g N (.slice (some ⟨c,0,none⟩) k f) (.slice (some ⟨j,0,none⟩) nb m) u y:=by
 obtain ⟨D,C,s,p,r,A,b,a,B,q,n,h,i,l⟩:=o;injection b with b e3 e4;injection b with b;injection b with b;injection a with a e5 e6;injection a with a;injection a with a;subst b a e3 e4 e5 e6;exact ⟨c,k,f,j,nb,m,rfl,rfl,v,d.own q (Ne.symm n),n,h.trans (d.1.mono B.base),Nat.lt_of_le_of_lt z i,l⟩
theorem Two.swap {w wr:World}{N:Nat}{f d:Value}{x y:Nat}(j:Two w wr N f d x y):Two w wr N d f y x:=by
 obtain ⟨g,n,l,h,nb,o,q,m,p,k,i,a,b,c⟩:=j;exact ⟨h,nb,o,g,n,l,m,q,k,p,Ne.symm i,a,c,b⟩
theorem bA {w:World}{B g n cap x:Nat}(h:OwS w B g n cap (ap x)):valOf w (.slice (some ⟨g,0,none⟩) n cap)=x:=by rw [h.toWd.valOf,ah]
theorem Two.at_ {w wr:World}{N c g f d nb i x y:Nat}(j:Two w wr N (.slice (some ⟨c,0,none⟩) g f) (.slice (some ⟨d,0,none⟩) nb i) x y):OwS wr w.heap.size c g f (ap x)/\OwS wr w.heap.size d nb i (ap y)/\c≠d/\Below w.heap.size w wr/\x<4294967296^N/\y<4294967296^N:=by
 obtain ⟨p,o,m,k,l,n,b,a,h⟩:=j;injection b with b e3 e4;injection b with b;injection b with b;injection a with a e5 e6;injection a with a;injection a with a;subst b a e3 e4 e5 e6;exact h
theorem OwS.belw {w d:World}{B g n cap:Nat}{l:List Nat}(h:OwS w B g n cap l) (hb:Below w.heap.size w d):OwS d B g n cap l:=by
 refine ⟨⟨h.1.1,?_⟩,h.2⟩;rcases h.1.2 with ⟨e,_⟩ | ⟨f,a,cur,e,c,b,r⟩
 ·cases e
 exact .inr ⟨f,a,cur,e,c,(hb.block f (lt_of_block b)).trans b,r⟩
theorem Two.belw {w wr d:World}{N:Nat}{g f:Value}{x y:Nat}(k:Two w wr N g f x y) (hb:Below wr.heap.size wr d):Two w d N g f x y:=by
 obtain ⟨h,o,m,i,nb,p,r,n,q,l,j,a,b,c⟩:=k;exact ⟨h,o,m,i,nb,p,r,n,q.belw hb,l.belw hb,j,a.trans (hb.mono a.size),b,c⟩
theorem dE {a b:Nat}(h:a<=b):(ap a).length<=(ap b).length:=ay (Nat.lt_of_le_of_lt h (by have:=cF (eK b);rwa [ah] at this))
theorem Two.form {w wr:World}{N:Nat}{h g:Value}{x y:Nat}(j:Two w wr N h g x y):∃ b a f d nb c,h=.slice (some ⟨b,0,none⟩) a f/\g=.slice (some ⟨d,0,none⟩) nb c:=by
 obtain ⟨b,a,f,d,nb,c,i,k,_⟩:=j;exact ⟨b,a,f,d,nb,c,i,k⟩
theorem vC {t x x0 N:Nat}(h:x0=2^t*x) (c:0<x) (hN:x0<4294967296^N):t<32*N:=by
 have b:2^t<=x0:=by rw [h];exact Nat.le_mul_of_pos_right _ c
 have a:(4294967296:Nat)^N=2^(32*N):=by rw [Nat.pow_mul]
 rw [a] at hN;exact (Nat.pow_lt_pow_iff_right (by omega)).1 (Nat.lt_of_le_of_lt b hN)
theorem Bh {x y:Nat}(h:¬ (x%2=0/\y%2=0)):Nat.gcd x y%2=1:=by
 rcases Nat.mod_two_eq_zero_or_one (Nat.gcd x y) with a | a
 ·exfalso
  have b:2 ∣ Nat.gcd x y:=Nat.dvd_of_mod_eq_zero a;exact h ⟨Nat.mod_eq_zero_of_dvd (Nat.dvd_trans b (Nat.gcd_dvd_left x y)),Nat.mod_eq_zero_of_dvd (Nat.dvd_trans b (Nat.gcd_dvd_right x y))⟩
 exact a
theorem jN {u v G:Nat}(h:Nat.gcd u v=G) (f:G%2=1) (c:u%2=0):Nat.gcd (u/2) v=G:=by
 have d:v%2=1:=by
  rcases Nat.mod_two_eq_zero_or_one v with a | a
  ·exfalso
   have b:2 ∣ Nat.gcd u v:=Nat.dvd_gcd (Nat.dvd_of_mod_eq_zero c) (Nat.dvd_of_mod_eq_zero a);rw [h] at b;have:=Nat.mod_eq_zero_of_dvd b;omega
  exact a
 rw [nL c d];exact h
theorem Bi (w:World) (N:Nat) (hN:N<=1099511627000) (A n c l) (wa:Wd w A n c l) (hn:n<=N) (A' n' c' l') (wb:Wd w A' n' c' l') (d0:n'<=N) (h0:val l≠0) (c6:val l'≠0) :
 Calls Tryz.prog 161 #[.slice A n c,.slice A' n' c'] w (fz w (ap (Nat.gcd (val l) (val l')))):=by
 have cs:=wa.vlt hn;have bd:=wb.vlt d0;obtain ⟨x0,bw⟩:∃ x,val l=x:=⟨_,rfl⟩;obtain ⟨y0,bz⟩:∃ y,val l'=y:=⟨_,rfl⟩;rw [bw] at cs h0;rw [bz] at bd c6;rw [bw,bz];have d3:=Qh bw;have dq:=Qh bz;have bv:=Qh cs;have dr:=Qh bd;have cx:0<x0:=by omega
 have c9:0<y0:=by omega
 clear bw bz cs bd h0 c6;go_in;go_wp2_with fail;refine (jL _ A n c l ?_ ?_).mono ?_;(exact wa);(omega);rintro e w1 ⟨ga,na,ca,rfl,h1,bs⟩;rw [d3.out] at h1;go_wp2_with fail;refine (jL _ A' n' c' l' ?_ ?_).mono ?_;(exact wb.belw bs);(omega);rintro e w2 ⟨gb,nb,cb,rfl,h2,ch⟩;rw [dq.out] at h2;have hg:ga≠gb:=by have:=h1.lt;have:=h2.base;omega
 have di:OwS w2 w.heap.size ga na ca (ap x0):=by
  refine ⟨⟨h1.1.1,?_⟩,h1.2⟩;rcases h1.1.2 with ⟨e,_⟩ | ⟨g',a4,cur,e,hb,c3,r⟩
  ·cases e
  exact .inr ⟨g',a4,cur,e,hb,(ch.block g' (lt_of_block c3)).trans c3,r⟩
 have c1:OwS w2 w.heap.size gb nb cb (ap y0):=by
  refine ⟨⟨h2.1.1,?_⟩,h2.2⟩;rcases h2.1.2 with ⟨e,_⟩ | ⟨g',a4,cur,e,hb,r⟩
  ·cases e
  exact .inr ⟨g',a4,cur,e,Nat.le_trans bs.size hb,r⟩
 have HT:=Qh (show Two w w2 N (.slice (some ⟨ga,0,none⟩) na ca) (.slice (some ⟨gb,0,none⟩) nb cb) x0 y0 from ⟨ga,na,ca,gb,nb,cb,rfl,rfl,di,c1,hg,bs.trans (ch.mono bs.size),bv.out,dr.out⟩);have ea:((na:Int)==0)=false:=by have:=df h1 cx;simp;omega
 have eb:((nb:Int)==0)=false:=by have:=df h2 c9;simp;omega
 clear h1 h2 di c1 bs ch hg;go_wp2_with fail;go_loopw [0,1,5] (fun T S tv wr=>∃ (x y t:Nat),Two w wr N T S x y/\tv=.int .i64 (t:Nat)/\0<x/\0<y/\x0=2^t*x/\y0=2^t*y) (fun T _ _ wr=>valOf wr T)
 case atStart=>exact ⟨x0,y0,0,HT.out,rfl,cx,c9,by simp,by simp⟩
 case round =>
  obtain ⟨x,y,t,hT,rfl,hx,hy,hex,db⟩:=hrel;obtain ⟨ga,na,ca,gb,nb,cb,rfl,rfl⟩:=hT.form;have HT:=Qh hT;have bu:=fN hT.at_.1 hx;have bY:=fN hT.at_.2.1 hy;have c0:=df hT.at_.1 hx;have bx:=df hT.at_.2.1 hy;have b3:=fk hT.at_.1 hT.at_.2.2.2.2.1;have b1:=fk hT.at_.2.1 hT.at_.2.2.2.2.2;obtain ⟨p,hp⟩:∃ p,x%4294967296=p:=⟨_,rfl⟩;obtain ⟨q,hq⟩:∃ q,y%4294967296=q:=⟨_,rfl⟩;rw [hp] at bu;rw [hq] at bY;have bf:p<4294967296:=by omega
  have b0:q<4294967296:=by omega
  have c8:x%2=p%2:=by omega
  have c2:y%2=q%2:=by omega
  have ht:t<32*N:=vC hex hx bv.out;have HE:=Qh (And.intro hex db);have HP:=Qh (And.intro c8 c2);clear hex db hp hq c8 c2 hT;by_cases aT:p%2=0/\q%2=0
  ·have ea:=eS bf aT.1
   have eb:=eS b0 aT.2;have c7:=Qh aT;clear aT;go_wp2_with fail;refine (eG _ w.heap.size ga na ca (ap x) ?_ ?_).mono ?_;(exact HT.out.at_.1);(omega);rintro e w1 ⟨k1,rfl,o1,b2⟩;have c4:=Qh (HT.out.left o1.of_digs b2 (Nat.div_le_self _ _));clear o1 b2 bu bY;go_wp2_with fail;refine (eG _ w.heap.size gb nb cb (ap y) ?_ ?_).mono ?_;(exact c4.out.at_.2.1);(omega);rintro e w2 ⟨k2,rfl,o2,b4⟩;have b:=Qh (c4.out.swap.left o2.of_digs b4 (Nat.div_le_self _ _)).swap;clear o2 b4;go_wp2_with fail;go_roundw
   case rel =>
    have h1:x=2*(x/2):=by have:=HP.out.1;have:=c7.out.1;omega
    have h2:y=2*(y/2):=by have:=HP.out.2;have:=c7.out.2;omega
    exact ⟨x/2,y/2,t+1,b.out,by go_num,by omega,by omega,by rw [HE.out.1,Nat.pow_succ,Nat.mul_assoc,<- h1],by rw [HE.out.2,Nat.pow_succ,Nat.mul_assoc,<- h2]⟩
   case measure =>
    rw [bA b.out.at_.1,bA HT.out.at_.1];omega
  have b6:Nat.gcd x y%2=1:=Bh (by intro h;exact aT ⟨by have:=HP.out.1;omega,by have:=HP.out.2;omega⟩);obtain ⟨G,hG⟩:∃ G,Nat.gcd x y=G:=⟨_,rfl⟩;rw [hG] at b6;have HG:=Qh (And.intro hG b6);have d5:0<G:=by omega
  clear hG b6;rcases (show p%2=1\/(p%2=0/\q%2=1) by omega) with h1 | ⟨h1,h2⟩
  ·have ea:=iG bf h1
   clear aT h1;go_wp2_with fail;clear ea
   try clear eb
   have e5:0<nb:=bx;clear bu bY bf b0 c0 bx b3 b1;go_loopw [0,1] (fun T S wr=>∃ (u v:Nat),Two w wr N T S u v/\0<v/\Nat.gcd u v=G) (fun T S wr=>valOf wr T+valOf wr S)
   case atStart=>exact ⟨x,y,HT.out,hy,HG.out.1⟩
   case round =>
    rename_i dn;obtain ⟨u,v,al,hv,a8⟩:=hrel;obtain ⟨ds,ck,d1,b7,b8,b9,rfl,rfl⟩:=al.form;have b:=Qh al;have a3:=Qh a8;clear al a8;by_cases hu:u=0
    ·subst hu
     have e0:ck=0:=by rw [b.out.at_.1.len,az];rfl
     subst e0;have cp:=Qh (show v=G by have:=a3.out;simpa using this);go_wp2_with fail;go_loopw [1,65] (fun S iv wr=>∃ (j:Nat) (B:Option Addr) (m cc:Nat),S=.slice B m cc/\Wd wr B m cc (ap (2^j*G))/\m<=N/\iv=.int .i64 (j:Nat)/\j<=t/\Below w.heap.size w wr) (fun _ iv _=>t-(intOf iv).toNat)
     case atStart =>
      have:=cp.out;subst this;exact ⟨0,_,_,_,rfl,by simpa using b.out.at_.2.1.toWd,fk b.out.at_.2.1 b.out.at_.2.2.2.2.2,rfl,Nat.zero_le _,b.out.at_.2.2.2.1⟩
     case round =>
      obtain ⟨j,B,m,cc,rfl,hw,hm,rfl,hj,a7⟩:=hrel;have HW:=Qh hw;have HB:=Qh a7;clear hw a7;by_cases o:j<t
      ·go_wp2_with fail
       refine (mw _ B m cc (ap (2^j*G)) ?_ ?_ B m cc (ap (2^j*G)) ?_ ?_).mono ?_;(exact HW.out);(omega);(exact HW.out);(omega);rintro e w4 ⟨B',m',cn,rfl,h4,cu⟩;have hz:val (ap (2^j*G))+val (ap (2^j*G))=2^(j+1)*G:=by rw [ah,Nat.pow_succ];grind
       rw [hz] at h4;have HZ:=Qh hz;have H4:=Qh h4;clear hz h4;go_wp2_with fail;go_roundw
       case rel =>
        refine ⟨j+1,B',m',cn,rfl,H4.out,?_,by go_num,by omega,HB.out.trans (cu.mono HB.out.size)⟩;rw [H4.out.2.1];refine ay (Nat.lt_of_le_of_lt ?_ bv.out);rw [HE.out.1];refine Nat.le_trans (Nat.mul_le_mul_right G (Nat.pow_le_pow_right (by omega) (show j+1<=t by omega))) (Nat.mul_le_mul_left _ ?_);rw [<- HG.out.1];exact Nat.gcd_le_left _ hx
       case measure=>simp [intOf];omega
      have cr:j=t:=by omega
      subst cr;go_wp2;go_ret;refine ⟨B,m,cc,rfl,?_,HB.out⟩;rw [HE.out.1,HE.out.2,Nat.gcd_mul_left,HG.out.1];exact HW.out
    have bk:0<u:=by omega
    have c5:=df b.out.at_.1 bk;go_wp2_with fail;go_loopw [0] (fun T wr=>∃ (d:Nat),Two w wr N T (.slice (some ⟨b7,0,none⟩) b8 b9) d v/\0<d/\Nat.gcd d v=G/\d<=u) (fun T wr=>valOf wr T)
    case atStart=>exact ⟨u,b.out,bk,a3.out,Qr⟩
    case round =>
     rename_i d4;obtain ⟨d,k,ao,V,cv⟩:=hrel;obtain ⟨H,F,D,_,_,_,rfl,_⟩:=k.form;have U:=Qh k;have ac:=Qh V;have aS:=fN k.at_.1 ao;have dO:=df k.at_.1 ao;have cL:=fk k.at_.1 k.at_.2.2.2.2.1;obtain ⟨p3,a2⟩:∃ p,d%4294967296=p:=⟨_,rfl⟩;rw [a2] at aS;have X:p3<4294967296:=by omega
     have bn:d%2=p3%2:=by omega
     clear k V a2;by_cases P:p3%2=0
     ·have a5:=eS X P
      have J:=Qh (show d%2=0 by omega);clear P bn;go_wp2_with fail;refine (eG _ w.heap.size H F D (ap d) ?_ ?_).mono ?_;(exact U.out.at_.1);(omega);rintro e w4 ⟨k4,rfl,o4,W⟩;have br:=Qh (U.out.left o4.of_digs W (Nat.div_le_self _ _));clear o4 W aS;go_wp2_with fail;go_roundw
      case rel =>
       have:=J.out;exact ⟨d/2,br.out,by omega,jN ac.out HG.out.2 this,by omega⟩
      case measure =>
       rw [bA br.out.at_.1,bA U.out.at_.1];have:=J.out;omega
     have a5:=iG X (show p3%2=1 by omega);clear P bn;go_wp2_with fail;clear a5 aS;go_loopw [1] (fun S wr=>∃ (f:Nat),Two w wr N (.slice (some ⟨H,0,none⟩) F D) S d f/\0<f/\Nat.gcd d f=G/\f<=v) (fun S wr=>valOf wr S)
     case atStart=>exact ⟨v,U.out,hv,ac.out,Qr⟩
     case round =>
      rename_i dv;obtain ⟨f,z,a1,Z,cy⟩:=hrel;obtain ⟨_,_,_,R,O,M,_,rfl⟩:=z.form;have E:=Qh z;have K:=Qh Z;have a0:=fN z.at_.2.1 a1;have d2:=df z.at_.2.1 a1;have cz:=fk z.at_.2.1 z.at_.2.2.2.2.2;obtain ⟨p5,bg⟩:∃ p,f%4294967296=p:=⟨_,rfl⟩;rw [bg] at a0;have ab:p5<4294967296:=by omega
      have bl:f%2=p5%2:=by omega
      clear z Z bg;by_cases I:p5%2=0
      ·have a6:=eS ab I
       have J:=Qh (show f%2=0 by omega);clear I bl;go_wp2_with fail;refine (eG _ w.heap.size R O M (ap f) ?_ ?_).mono ?_;(exact E.out.at_.2.1);(omega);rintro e w6 ⟨k6,rfl,o6,Y⟩;have a:=Qh (E.out.swap.left o6.of_digs Y (Nat.div_le_self _ _)).swap;clear o6 Y a0;go_wp2_with fail;go_roundw
       case rel =>
        have:=J.out;exact ⟨f/2,a.out,by omega,by rw [Nat.gcd_comm];exact jN (by rw [Nat.gcd_comm];exact K.out) HG.out.2 this,by omega⟩
       case measure =>
        rw [bA a.out.at_.2.1,bA E.out.at_.2.1];have:=J.out;omega
      have a6:=iG ab (show p5%2=1 by omega);clear I bl;go_wp2_with fail;clear a6 a0;refine (dQ _ (some ⟨H,0,none⟩) F D (ap d) ?_ ?_ (some ⟨R,0,none⟩) O M (ap f) ?_ ?_).mono ?_;(exact E.out.at_.1.toWd);(omega);(exact E.out.at_.2.1.toWd);(omega);rintro e w6 ⟨rfl,bb⟩;have a:=Qh (E.out.belw bb);clear bb;rw [ah,ah];by_cases o:d<f
      ·rw [show bH d f=-1 by unfold bH;rw [if_pos o]]
       have g:=Qh (Nat.le_of_lt o);clear o;go_wp2_with fail;refine (gU _ w.heap.size R O M (ap f) ?_ ?_ (some ⟨H,0,none⟩) F D (ap d) ?_ ?_ ?_ ?_).mono ?_;(exact a.out.at_.2.1);(omega);(exact a.out.at_.1.toWd);(intro ad e;injection e with e;subst e;exact a.out.at_.2.2.1);(rw [a.out.at_.2.1.len,a.out.at_.1.len];exact dE g.out);(rw [ah,ah];exact g.out);rintro e w7 ⟨L,rfl,o7,C,i⟩;rw [ah,ah] at C;have an:=Qh C;have aC:=Qh o7;have Q:=Qh i;clear C o7 i;go_wp2_with fail;refine (jM _ w.heap.size R O M L ?_ ?_).mono ?_;(exact aC.out);(omega);rintro e w8 ⟨k8,rfl,o8,rfl⟩;rw [an.out] at o8;have s:=Qh (a.out.swap.left o8 Q.out (Nat.sub_le _ _));clear o8;go_wp2_with fail;go_roundw
       case rel=>exact ⟨f-d,d,s.out,ao,by rw [lJ g.out];rw [Nat.gcd_comm];exact K.out⟩
       case measure =>
        rw [bA s.out.at_.1,bA s.out.at_.2.1,bA b.out.at_.1,bA b.out.at_.2.1];have:=g.out;omega

      ·have b5:decide (bH d f<0)=false:=by unfold bH;rw [if_neg o];split <;> decide
       have g:=Qh (Nat.le_of_not_lt o);obtain ⟨cm,a9⟩:∃ cm,bH d f=cm:=⟨_,rfl⟩;rw [a9] at b5 ⊢;clear o a9;go_wp2_with fail;refine (gU _ w.heap.size H F D (ap d) ?_ ?_ (some ⟨R,0,none⟩) O M (ap f) ?_ ?_ ?_ ?_).mono ?_;(exact a.out.at_.1);(omega);(exact a.out.at_.2.1.toWd);(intro ad e;injection e with e;subst e;exact Ne.symm a.out.at_.2.2.1);(rw [a.out.at_.1.len,a.out.at_.2.1.len];exact dE g.out);(rw [ah,ah];exact g.out);rintro e w7 ⟨L,rfl,o7,C,i⟩;rw [ah,ah] at C;have an:=Qh C;have aC:=Qh o7;have Q:=Qh i;clear C o7 i;go_wp2_with fail;refine (jM _ w.heap.size H F D L ?_ ?_).mono ?_;(exact aC.out);(omega);rintro e w8 ⟨k8,rfl,o8,rfl⟩;rw [an.out] at o8;have s:=Qh (a.out.left o8 Q.out (Nat.sub_le _ _));clear o8;go_wp2_with fail;go_roundw
       case rel=>exact ⟨d-f,f,s.out,a1,by rw [lJ g.out];exact K.out⟩
       case measure =>
        rw [bA s.out.at_.1,bA s.out.at_.2.1,bA b.out.at_.1,bA b.out.at_.2.1];have:=g.out;omega


  ·have ea:=eS bf h1
   have eb:=iG b0 h2;clear h2;clear aT h1;go_wp2_with fail;clear ea
   try clear eb
   have e5:0<nb:=bx;clear bu bY bf b0 c0 bx b3 b1;go_loopw [0,1] (fun T S wr=>∃ (u v:Nat),Two w wr N T S u v/\0<v/\Nat.gcd u v=G) (fun T S wr=>valOf wr T+valOf wr S)
   case atStart=>exact ⟨x,y,HT.out,hy,HG.out.1⟩
   case round =>
    rename_i dn;obtain ⟨u,v,al,hv,a8⟩:=hrel;obtain ⟨ds,ck,d1,b7,b8,b9,rfl,rfl⟩:=al.form;have b:=Qh al;have a3:=Qh a8;clear al a8;by_cases hu:u=0
    ·subst hu
     have e0:ck=0:=by rw [b.out.at_.1.len,az];rfl
     subst e0;have cp:=Qh (show v=G by have:=a3.out;simpa using this);go_wp2_with fail;go_loopw [1,65] (fun S iv wr=>∃ (j:Nat) (B:Option Addr) (m cc:Nat),S=.slice B m cc/\Wd wr B m cc (ap (2^j*G))/\m<=N/\iv=.int .i64 (j:Nat)/\j<=t/\Below w.heap.size w wr) (fun _ iv _=>t-(intOf iv).toNat)
     case atStart =>
      have:=cp.out;subst this;exact ⟨0,_,_,_,rfl,by simpa using b.out.at_.2.1.toWd,fk b.out.at_.2.1 b.out.at_.2.2.2.2.2,rfl,Nat.zero_le _,b.out.at_.2.2.2.1⟩
     case round =>
      obtain ⟨j,B,m,cc,rfl,hw,hm,rfl,hj,a7⟩:=hrel;have HW:=Qh hw;have HB:=Qh a7;clear hw a7;by_cases o:j<t
      ·go_wp2_with fail
       refine (mw _ B m cc (ap (2^j*G)) ?_ ?_ B m cc (ap (2^j*G)) ?_ ?_).mono ?_;(exact HW.out);(omega);(exact HW.out);(omega);rintro e w4 ⟨B',m',cn,rfl,h4,cu⟩;have hz:val (ap (2^j*G))+val (ap (2^j*G))=2^(j+1)*G:=by rw [ah,Nat.pow_succ];grind
       rw [hz] at h4;have HZ:=Qh hz;have H4:=Qh h4;clear hz h4;go_wp2_with fail;go_roundw
       case rel =>
        refine ⟨j+1,B',m',cn,rfl,H4.out,?_,by go_num,by omega,HB.out.trans (cu.mono HB.out.size)⟩;rw [H4.out.2.1];refine ay (Nat.lt_of_le_of_lt ?_ bv.out);rw [HE.out.1];refine Nat.le_trans (Nat.mul_le_mul_right G (Nat.pow_le_pow_right (by omega) (show j+1<=t by omega))) (Nat.mul_le_mul_left _ ?_);rw [<- HG.out.1];exact Nat.gcd_le_left _ hx
       case measure=>simp [intOf];omega
      have cr:j=t:=by omega
      subst cr;go_wp2;go_ret;refine ⟨B,m,cc,rfl,?_,HB.out⟩;rw [HE.out.1,HE.out.2,Nat.gcd_mul_left,HG.out.1];exact HW.out
    have bk:0<u:=by omega
    have c5:=df b.out.at_.1 bk;go_wp2_with fail;go_loopw [0] (fun T wr=>∃ (d:Nat),Two w wr N T (.slice (some ⟨b7,0,none⟩) b8 b9) d v/\0<d/\Nat.gcd d v=G/\d<=u) (fun T wr=>valOf wr T)
    case atStart=>exact ⟨u,b.out,bk,a3.out,Qr⟩
    case round =>
     rename_i d4;obtain ⟨d,k,ao,V,cv⟩:=hrel;obtain ⟨H,F,D,_,_,_,rfl,_⟩:=k.form;have U:=Qh k;have ac:=Qh V;have aS:=fN k.at_.1 ao;have dO:=df k.at_.1 ao;have cL:=fk k.at_.1 k.at_.2.2.2.2.1;obtain ⟨p3,a2⟩:∃ p,d%4294967296=p:=⟨_,rfl⟩;rw [a2] at aS;have X:p3<4294967296:=by omega
     have bn:d%2=p3%2:=by omega
     clear k V a2;by_cases P:p3%2=0
     ·have a5:=eS X P
      have J:=Qh (show d%2=0 by omega);clear P bn;go_wp2_with fail;refine (eG _ w.heap.size H F D (ap d) ?_ ?_).mono ?_;(exact U.out.at_.1);(omega);rintro e w4 ⟨k4,rfl,o4,W⟩;have br:=Qh (U.out.left o4.of_digs W (Nat.div_le_self _ _));clear o4 W aS;go_wp2_with fail;go_roundw
      case rel =>
       have:=J.out;exact ⟨d/2,br.out,by omega,jN ac.out HG.out.2 this,by omega⟩
      case measure =>
       rw [bA br.out.at_.1,bA U.out.at_.1];have:=J.out;omega
     have a5:=iG X (show p3%2=1 by omega);clear P bn;go_wp2_with fail;clear a5 aS;go_loopw [1] (fun S wr=>∃ (f:Nat),Two w wr N (.slice (some ⟨H,0,none⟩) F D) S d f/\0<f/\Nat.gcd d f=G/\f<=v) (fun S wr=>valOf wr S)
     case atStart=>exact ⟨v,U.out,hv,ac.out,Qr⟩
     case round =>
      rename_i dv;obtain ⟨f,z,a1,Z,cy⟩:=hrel;obtain ⟨_,_,_,R,O,M,_,rfl⟩:=z.form;have E:=Qh z;have K:=Qh Z;have a0:=fN z.at_.2.1 a1;have d2:=df z.at_.2.1 a1;have cz:=fk z.at_.2.1 z.at_.2.2.2.2.2;obtain ⟨p5,bg⟩:∃ p,f%4294967296=p:=⟨_,rfl⟩;rw [bg] at a0;have ab:p5<4294967296:=by omega
      have bl:f%2=p5%2:=by omega
      clear z Z bg;by_cases I:p5%2=0
      ·have a6:=eS ab I
       have J:=Qh (show f%2=0 by omega);clear I bl;go_wp2_with fail;refine (eG _ w.heap.size R O M (ap f) ?_ ?_).mono ?_;(exact E.out.at_.2.1);(omega);rintro e w6 ⟨k6,rfl,o6,Y⟩;have a:=Qh (E.out.swap.left o6.of_digs Y (Nat.div_le_self _ _)).swap;clear o6 Y a0;go_wp2_with fail;go_roundw
       case rel =>
        have:=J.out;exact ⟨f/2,a.out,by omega,by rw [Nat.gcd_comm];exact jN (by rw [Nat.gcd_comm];exact K.out) HG.out.2 this,by omega⟩
       case measure =>
        rw [bA a.out.at_.2.1,bA E.out.at_.2.1];have:=J.out;omega
      have a6:=iG ab (show p5%2=1 by omega);clear I bl;go_wp2_with fail;clear a6 a0;refine (dQ _ (some ⟨H,0,none⟩) F D (ap d) ?_ ?_ (some ⟨R,0,none⟩) O M (ap f) ?_ ?_).mono ?_;(exact E.out.at_.1.toWd);(omega);(exact E.out.at_.2.1.toWd);(omega);rintro e w6 ⟨rfl,bb⟩;have a:=Qh (E.out.belw bb);clear bb;rw [ah,ah];by_cases o:d<f
      ·rw [show bH d f=-1 by unfold bH;rw [if_pos o]]
       have g:=Qh (Nat.le_of_lt o);clear o;go_wp2_with fail;refine (gU _ w.heap.size R O M (ap f) ?_ ?_ (some ⟨H,0,none⟩) F D (ap d) ?_ ?_ ?_ ?_).mono ?_;(exact a.out.at_.2.1);(omega);(exact a.out.at_.1.toWd);(intro ad e;injection e with e;subst e;exact a.out.at_.2.2.1);(rw [a.out.at_.2.1.len,a.out.at_.1.len];exact dE g.out);(rw [ah,ah];exact g.out);rintro e w7 ⟨L,rfl,o7,C,i⟩;rw [ah,ah] at C;have an:=Qh C;have aC:=Qh o7;have Q:=Qh i;clear C o7 i;go_wp2_with fail;refine (jM _ w.heap.size R O M L ?_ ?_).mono ?_;(exact aC.out);(omega);rintro e w8 ⟨k8,rfl,o8,rfl⟩;rw [an.out] at o8;have s:=Qh (a.out.swap.left o8 Q.out (Nat.sub_le _ _));clear o8;go_wp2_with fail;go_roundw
       case rel=>exact ⟨f-d,d,s.out,ao,by rw [lJ g.out];rw [Nat.gcd_comm];exact K.out⟩
       case measure =>
        rw [bA s.out.at_.1,bA s.out.at_.2.1,bA b.out.at_.1,bA b.out.at_.2.1];have:=g.out;omega

      ·have b5:decide (bH d f<0)=false:=by unfold bH;rw [if_neg o];split <;> decide
       have g:=Qh (Nat.le_of_not_lt o);obtain ⟨cm,a9⟩:∃ cm,bH d f=cm:=⟨_,rfl⟩;rw [a9] at b5 ⊢;clear o a9;go_wp2_with fail;refine (gU _ w.heap.size H F D (ap d) ?_ ?_ (some ⟨R,0,none⟩) O M (ap f) ?_ ?_ ?_ ?_).mono ?_;(exact a.out.at_.1);(omega);(exact a.out.at_.2.1.toWd);(intro ad e;injection e with e;subst e;exact Ne.symm a.out.at_.2.2.1);(rw [a.out.at_.1.len,a.out.at_.2.1.len];exact dE g.out);(rw [ah,ah];exact g.out);rintro e w7 ⟨L,rfl,o7,C,i⟩;rw [ah,ah] at C;have an:=Qh C;have aC:=Qh o7;have Q:=Qh i;clear C o7 i;go_wp2_with fail;refine (jM _ w.heap.size H F D L ?_ ?_).mono ?_;(exact aC.out);(omega);rintro e w8 ⟨k8,rfl,o8,rfl⟩;rw [an.out] at o8;have s:=Qh (a.out.left o8 Q.out (Nat.sub_le _ _));clear o8;go_wp2_with fail;go_roundw
       case rel=>exact ⟨d-f,f,s.out,a1,by rw [lJ g.out];exact K.out⟩
       case measure =>
        rw [bA s.out.at_.1,bA s.out.at_.2.1,bA b.out.at_.1,bA b.out.at_.2.1];have:=g.out;omega


theorem uj (w:World) (A n c l) (t:Wd w A n c l) (F:n<=1099511627000) (A' n' c' l') (s:Wd w A' n' c' l') (u:n'<=1099511627000) (p:val l=0\/val l'=0) :
 Calls Tryz.prog 161 #[.slice A n c,.slice A' n' c'] w (fz w (ap (Nat.gcd (val l) (val l')))):=by
 have r:=Qh p;clear p;go_in;go_wp2_with fail;refine (jL _ A n c l ?_ ?_).mono ?_;(exact t);(omega);rintro e z ⟨y,o,C,rfl,m,b⟩;go_wp2_with fail;refine (jL _ A' n' c' l' ?_ ?_).mono ?_;(exact s.belw b);(omega);rintro e H ⟨B,nb,E,rfl,j,f⟩;have q:=Qh (b.trans (f.mono b.size));have v:=Qh (m.belw f);have x:=Qh j;have a:=m.len;have g:=j.len;clear m j b f;by_cases i:val l=0
 ·have e:o=0:=by rw [a,i,az];rfl
  have k:=Qh (show ap (Nat.gcd (val l) (val l'))=ap (val l') by rw [i,Nat.gcd_zero_left]);subst e;clear a g i;go_wp2;go_ret;exact ⟨_,_,_,rfl,by rw [k.out];exact x.out.toWd,q.out⟩
 have d:val l'=0:=r.out.resolve_left i;have e:nb=0:=by rw [g,d,az];rfl
 have D:0<o:=by
  rw [a];rcases Nat.eq_zero_or_pos (ap (val l)).length with h | h
  ·exact absurd (bp.1 (List.eq_nil_of_length_eq_zero h)) i
  exact h
 have G:((o:Int)==0)=false:=by simp;omega
 have k:=Qh (show ap (Nat.gcd (val l) (val l'))=ap (val l) by rw [d,Nat.gcd_zero_right]);subst e;clear a g i d;go_wp2;go_ret;exact ⟨_,_,_,rfl,by rw [k.out];exact v.out.toWd,q.out⟩
theorem vE (w:World) (A n c l) (d:Wd w A n c l) (f:n<=1099511627000) (A' n' c' l') (b:Wd w A' n' c' l') (a:n'<=1099511627000) :
 Calls Tryz.prog 161 #[.slice A n c,.slice A' n' c'] w (fz w (ap (Nat.gcd (val l) (val l')))):=by
 by_cases h:val l=0
 ·exact uj w A n c l d f A' n' c' l' b a (.inl h)
 by_cases h':val l'=0
 ·exact uj w A n c l d f A' n' c' l' b a (.inr h')
 exact Bi w 1099511627000 Qr A n c l d f A' n' c' l' b a h h'
theorem Bk {w g:World}{A:Option Addr}{n c:Nat}{l:List Nat}{i:Option Addr}{b j:Nat}{d:List Nat}{N:Nat}(h:Wd w A n c l) (f:Wd g i b j d) (k:n<=N) (a:b<=N):(ap (Nat.gcd (val l) (val d))).length<=N:=ay (sY (h.vlt k) (f.vlt a))
theorem Bl (w:World) (b:Bool) (A n c l) (g:Wd w A n c l) (D:n<=1099511627000) (p:Bool) (A' n' c' l') (f:Wd w A' n' c' l') (s:n'<=1099511627000) :
 Calls Tryz.prog 127 #[.agg #[.bool b,.slice A n c],.agg #[.bool p,.slice A' n' c']] w (gP w (wh (Nat.gcd (WD.z ⟨b,l⟩).natAbs (WD.z ⟨p,l'⟩).natAbs:Nat))):=by
 have C:=Qh g.2.1;have t:=Qh f.2.1;rw [mr,mr];go_in;go_wp2_with fail;have b0:Below w.heap.size w (((w.alloc (.cells #[.bool b,.slice A n c] 134)).alloc (.cells #[.bool p,.slice A' n' c'] 134)).alloc (.cells #[.bool false,.slice none 0 0] 134)):=((((Below.refl _ _).alloc Qr _).alloc (by simp) _).alloc (by simp;omega) _);generalize a:(((w.alloc (.cells #[.bool b,.slice A n c] 134)).alloc (.cells #[.bool p,.slice A' n' c'] 134)).alloc (.cells #[.bool false,.slice none 0 0] 134))=W0 at b0 ⊢;have U:W0.cell? ⟨w.heap.size,0,none⟩=some (.bool b):=by subst a;simp [go_sem]
 have ac:W0.frozen? ⟨w.heap.size,0,none⟩=false:=by subst a;simp [go_sem]
 have ab:W0.cell? ⟨w.heap.size,1,none⟩=some (.slice A n c):=by subst a;simp [go_sem]
 have S:W0.frozen? ⟨w.heap.size,1,none⟩=false:=by subst a;simp [go_sem]
 have T:W0.cell? ⟨w.heap.size+1,0,none⟩=some (.bool p):=by subst a;simp [go_sem]
 have J:W0.frozen? ⟨w.heap.size+1,0,none⟩=false:=by subst a;simp [go_sem]
 have M:W0.cell? ⟨w.heap.size+1,1,none⟩=some (.slice A' n' c'):=by subst a;simp [go_sem]
 have V:W0.frozen? ⟨w.heap.size+1,1,none⟩=false:=by subst a;simp [go_sem]
 have ad:W0.cell? ⟨w.heap.size+1+1,0,none⟩=some (.bool false):=by subst a;simp [go_sem]
 have R:W0.frozen? ⟨w.heap.size+1+1,0,none⟩=false:=by subst a;simp [go_sem]
 have X:W0.cell? ⟨w.heap.size+1+1,1,none⟩=some (.slice none 0 0):=by subst a;simp [go_sem]
 have E:W0.frozen? ⟨w.heap.size+1+1,1,none⟩=false:=by subst a;simp [go_sem]
 have x0:Box W0 w.heap.size 134:=by subst a;exact ((bG _ _ _ (by simp)).alloc _).alloc _
 have x1:Box W0 (w.heap.size+1) 134:=by subst a;exact (bG _ _ _ (by simp)).alloc _
 have W:Box W0 (w.heap.size+1+1) 134:=by subst a;exact bG _ _ _ (by simp)
 have B:ji (w.heap.size+1+1) (w.heap.size+1+1+1) 2 W0:=by subst a;exact lu (by simp)
 have i:w.heap.size+1+1+1<=W0.heap.size:=by subst a;simp
 clear a;have g:=g.belw b0;have f:=f.belw b0;have O:Below W0.heap.size W0 W0:=ae _;have h:w.heap.size+1+1<=w.heap.size+1+1+1:=by omega
 go_region_held3 (fun G=>Sees (w.heap.size+1+1) W0 G) (first | exact Sees.of (Nat.le_trans h i) (by assumption) | exact Sees.of (Nat.le_trans h i) (af (by assumption) _) | exact (Sees.set (Sees.of (Nat.le_trans h i) (by assumption)) (by simp)) | exact (Sees.set (Sees.set (Sees.of (Nat.le_trans h i) (by assumption)) (by simp)) (by simp)))
  (first
   | (go_at_call 159;(with_reducible refine (dc _ b A n c l ?_ ?_).mono ?_);(exact g);(omega);rintro e w1 ⟨K,n1,c1,rfl,o,j⟩;replace j:=aj (af (ae _) 1) j;have H:=aj O j;replace g:=g.belw j;replace f:=f.belw j)
   | (go_at_call 159;(with_reducible refine (dc _ p A' n' c' l' ?_ ?_).mono ?_);(exact f);(omega);rintro e w2 ⟨A2,L,c2,rfl,r,q⟩;have Y:=aj H q;replace g:=g.belw q;replace f:=f.belw q;replace o:=o.belw q)
   | (go_at_call 161;(with_reducible refine (vE _ K n1 c1 (WD.m ⟨b,l⟩) ?_ ?_ A2 L c2 (WD.m ⟨p,l'⟩) ?_ ?_).mono ?_);(exact o);(exact o.m_len (by rw [<- C.out];exact D));(exact r);(exact r.m_len (by rw [<- t.out];exact s));rintro e w3 ⟨Z,I,c3,rfl,u,k⟩;have F:=aj Y k;replace g:=g.belw k;replace f:=f.belw k;replace o:=o.belw k;replace r:=r.belw k)
   | (go_at_call 129;(with_reducible refine (de _ false Z I c3 (ap (Nat.gcd (val (WD.m ⟨b,l⟩)) (val (WD.m ⟨p,l'⟩)))) (Nat.gcd (val (WD.m ⟨b,l⟩)) (val (WD.m ⟨p,l'⟩)):Nat) ?_ ?_ ?_).mono ?_);(exact u);(rw [u.2.1];exact Bk o r (Nat.le_trans (o.m_len (by rw [<- C.out];exact D)) (by decide)) (Nat.le_trans (r.m_len (by rw [<- t.out];exact s)) (by decide)));(rw [ah];rfl);rintro e w4 ⟨Q,n4,c4,rfl,N,d⟩;have y:=aj F d;replace g:=g.belw d;replace f:=f.belw d;replace o:=o.belw d;replace r:=r.belw d;replace u:=u.belw d;obtain ⟨⟨sc,sf⟩,P,sz⟩:=ba.of (by omega) i B y))
 clear h;go_wp2_with fail;refine bodyPost_ret (v:=.agg #[.bool _,.slice Q n4 c4]) (by simp [results,Tryz.results127,go_sem,P];rfl) rfl ?_;have x:=W.below y;refine gR ?_ ?_ ?_
 ·rfl
 ·exact N.keep (kp2 x (by decide) _ _ _ _)
 exact ((b0.trans (y.mono b0.size)).setCell (by dsimp only;omega) _).setCell (by dsimp only;omega) _
theorem uk (w:World) (b A n c z k) (h:IZ w b A n c z k) (b' A' n' c' z' k') (f:IZ w b' A' n' c' z' k') (p:k+k'<=1000000000):Calls Tryz.prog 127 #[.agg #[.bool b,.slice A n c],.agg #[.bool b',.slice A' n' c']] w (jj w (Nat.gcd z.natAbs z'.natAbs:Nat) (k+k')):=by
 have o:=h.mono (Nat.le_add_right k k') |>.lt
 have a:=f.mono (Nat.le_add_left k' k) |>.lt
 obtain ⟨l,j,rfl,q⟩:=h;obtain ⟨g,d,rfl,m⟩:=f;exact (Bl w b A n c l j (by omega) b' A' n' c' g d (by omega)).mono fun _ _ r=>r.i (by simpa using sY o a)
theorem yq (w:World)  :
 Calls Tryz.prog 88 #[] w (jj w 1 1):=by
 go_in;go_wp2_with fail;refine (ui _ (1) ?_ ?_).mono ?_;(omega);(omega);rintro e i ⟨c,d,f,c1,rfl,l,b⟩;have q1:=b.q1;have a:Blk i w.heap.size 134 #[.bool false,.slice none 0 0]:=(ak _ _ _ (by simp)).below b (by simp);have g:=(ae w).trans (q1.mono (ae w).size);have m:=b.l1;clear q1;have j:=a.c2;have h:=a.f2;have k:=jh a.lt;go_wp2_with fail;refine bodyPost_ret (v:=.agg #[.bool c,.slice d f c1]) (by simp [results,Tryz.results88,go_sem, *] <;> trivial) rfl ?_;exact ⟨c,d,f,c1,rfl,l.keep (((Kp.refl i).sb w.heap.size 0 a.box (by decide) (.bool c)).sb w.heap.size 1 (a.box.set ⟨w.heap.size,0,none⟩ (.bool c)) (by decide) (.slice d f c1)),((g.sc w.heap.size 0 (by omega) (.bool c)).sc w.heap.size 1 (by omega) (.slice d f c1))⟩
theorem vF (w:World) (b A n c z k) (h:IZ w b A n c z k) (b' A' n' c' z' k') (d:IZ w b' A' n' c' z' k') (s:Int) (f:da z z'=s) (a:k+k'<=999999999) :
 Calls Tryz.prog 131 #[.agg #[.bool b,.slice A n c],.agg #[.bool b',.slice A' n' c']] w (ax w (.int .i64 s)):=by subst f;exact Bg w b A n c z k h b' A' n' c' z' k' d a

def fC (l:List Nat):Bool:=l != []&&last0 l
theorem Bm {l:List Nat}(h:l≠[]):fC l=last0 l:=by unfold fC;have:(l != [])=true:=bne_iff_ne.2 h;rw [this];rfl
theorem oB (w:World) (A:Option Addr) (n c:Nat) (l:List Nat) (v:Bool) (h:Wd w A n c l) (m:fC l=v) (B:n<=1000000000) :
 Calls Tryz.prog 130 #[.slice A n c] w (ax w (.bool v)):=by
 have b:=Qh h.2.1;have p:=Qh m;clear m;by_cases j:n=0
 ·subst j
  have i:l=[]:=List.eq_nil_of_length_eq_zero b.out.symm;have f:=Qh (show v=false by rw [<- p.out,i];rfl);clear i;go_in;go_wp2;go_ret;exact bW f.out.symm (Below.refl _ _)
 obtain ⟨g,o,rfl,y,q⟩:=h.at2 (by omega);have u:=q (n-1) (by omega);have r:=h.lt (n-1);have a:l≠[]:=by rintro rfl;have:=b.out;simp at this;omega
 have k:v=(wd l (n-1) != 0):=by rw [<- p.out,Bm a];unfold last0;rw [<- b.out]
 have f:=Qh k;have z:0<n:=by omega
 clear q j k a;generalize d:wd l (n-1)=x at *;clear d;go_in;go_wp2;go_ret;refine bW ?_ (Below.refl _ _);rw [f.out];by_cases hz:x=0
 ·subst hz;rfl
 have t:(x != 0)=true:=bne_iff_ne.2 hz;have s:((x:Int) != 0)=true:=bne_iff_ne.2 (by omega)
 first | rw [t,s] | simp [hz]
theorem EM {w:World}{b:Bool}{A:Option Addr}{n c:Nat}{D:Option Addr}{m e:Nat}{a:RD}{k:Nat}(h:QD w b A n c D m e a k) (f:0<n\/0<m):a.ok=(fC a.num&&fC a.den&&Nat.gcd (val a.num) (val a.den)==1):=by
 unfold RD.ok fC;rw [if_neg (by intro x;rcases f with d | d;exact h.num_ne d x.1;exact h.den_ne_ d x.2)];cases (a.num != []) <;> cases (a.den != []) <;> cases (last0 a.num) <;> cases (last0 a.den) <;> simp
theorem qW {l:List Nat}(h:fC l=true):WD.ok ⟨false,l⟩=true:=by
 unfold fC at h;have a:l≠[]:=by rintro rfl;exact absurd h (by decide)
 rw [yj a];exact ((Bool.and_eq_true _ _).mp h).2
theorem vG (w:World) (b A n c D m e a k) (h:QD w b A n c D m e a k) (d:k<=300000000) (g:n=0) (f:m=0) :
 Calls Tryz.prog 92 #[.agg #[.bool b,.slice A n c,.slice D m e]] w (ax w (.bool a.ok)):=by
 have i:=Qh (show a.ok=!b from Cz h g f);have j:=Qh d;subst g f;clear h d;go_in;go_wp2;go_ret;exact bW (by rw [i.out]) ((Below.refl _ _).alloc Qr _)
theorem Bo (w:World) (b A n c D m e a k) (h:QD w b A n c D m e a k) (P:k<=300000000):Calls Tryz.prog 92 #[.agg #[.bool b,.slice A n c,.slice D m e]] w (ax w (.bool a.ok)):=by
 by_cases q:n=0/\m=0
 ·exact vG w b A n c D m e a k h P q.1 q.2
 have p:=EM h (by omega);have V:=h.2.2.2.1;have U:=h.2.2.2.2;obtain ⟨u,t⟩:∃ u,fC a.num=u:=⟨_,rfl⟩;obtain ⟨v,B⟩:∃ v,fC a.den=v:=⟨_,rfl⟩;rw [p,t,B];have L:=Qh t;have M:=Qh B;have H:=Qh h;clear p t B h;go_in;go_upto_region 1 with fail;refine cQ ?_;intro E i;have f:Blk E w.heap.size 54 #[.bool b,.slice A n c,.slice D m e]:=by rw [i];exact Blk.new w _ _
 have d:Below w.heap.size w E:=by rw [i];exact (ae w).alloc Qr _
 clear i;have y:=f.v3;go_cut [12] (fun C I=>C=.bool false/\Blk I w.heap.size 54 #[.bool b,.slice A n c,.slice D m e]/\Below w.heap.size w I)
 case first =>
  rcases Nat.eq_zero_or_pos n with G | G
  ·have W:((n:Int)==0)=true:=by simp [G]
   have e2:((m:Int)==0)=false:=by simp;omega
   go_wp2_with fail;go_meet;exact ⟨rfl,f,d⟩
  have W:((n:Int)==0)=false:=by simp;omega
  go_wp2_with fail;go_meet;exact ⟨rfl,f,d⟩
 case rest =>
  clear f d y q;obtain ⟨rfl,f,d⟩:=hcut;have y:=f.v3;go_wp2_with fail;(refine (oB _ A n c a.num u (H.out.2.1.belw d) L.out (by omega)).mono ?_);rintro e Z ⟨rfl,l⟩;replace d:=d.trans (l.mono d.size);replace f:=f.b l;clear l y;cases u
  ·go_wp2
   go_ret;exact ⟨rfl,d⟩
  have y:=f.v3;go_wp2_with fail;(refine (oB _ D m e a.den v (H.out.2.2.1.belw d) M.out (by omega)).mono ?_);rintro r Y ⟨rfl,j⟩;replace d:=d.trans (j.mono d.size);replace f:=f.b j;clear j y;cases v
  ·go_wp2
   go_ret;exact ⟨rfl,d⟩
  have hN:=(H.out.num_z (qW L.out)).belw d;have F:=(H.out.den_z (qW M.out)).belw d;have y:=f.v3;go_wp2_with fail;(refine (uk _ false A n c _ k hN false D m e _ k F (by omega)).mono ?_);rintro r w5 ⟨Q,R,n9,O,rfl,z,o⟩;replace d:=d.trans (o.mono d.size);clear o y hN F f;go_wp2_with fail;(refine (yq _).mono ?_);rintro r w6 ⟨X,T,n8,N,rfl,S,g⟩;replace d:=d.trans (g.mono d.size);replace z:=z.belw g;clear g;obtain ⟨s,K⟩:∃ s,da ((Nat.gcd ((val a.num:Int)).natAbs ((val a.den:Int)).natAbs:Nat)) 1=s:=⟨_,rfl⟩;have J:=Qh K;clear K;go_wp2_with fail;(refine (vF _ Q R n9 O _ (k+k) z.iz X T n8 N 1 1 S.iz s J.out (by omega)).mono ?_);rintro r w7 ⟨rfl,x⟩;go_wp2;go_ret;exact bW (uf J.out rfl) (d.trans (x.mono d.size))

section
variable {w:World}{b:Bool}{A:Option Addr}{n c:Nat}{D:Option Addr}{m e:Nat}{a:RD}{k:Nat}
theorem CA (h:a.ok=false\/a.num=[]):a.q.num=0/\(a.q.den:Int)=1:=by
 have c:(a.ok&&a.num != [])=false:=by rcases h with h | h <;> simp [h]
 have b:a.q=0:=by unfold RD.q RD.n RD.d;rw [c];simp
 rw [b];exact ⟨rfl,rfl⟩
theorem EN (h:Wds a.num) (hd:Wds a.den) (f:a.ok=true) (d:a.num≠[]):a.num=(wh a.q.num).mag/\a.neg=(wh a.q.num).neg/\a.den=(wh (a.q.den:Int)).mag:=by
 have b:=eN h hd f
 have g:a.q.num≠0:=by
  intro e;have:(rd a.q).num=[]:=by unfold rd;simp [e,az]
  rw [b] at this;exact d this
 have c:(rd a.q).den=ap a.q.den:=by unfold rd;simp [g]
 refine ⟨?_,?_,?_⟩
 ·have:(rd a.q).num=ap a.q.num.natAbs:=rfl
  rw [b] at this;exact this
 ·have:(rd a.q).neg=decide (a.q.num<0):=rfl
  rw [b] at this;exact this
 rw [b] at c;exact c
theorem yr (h:QD w b A n c D m e a k) (d:a.ok=true) (g:a.num≠[]):0<m:=by
 rcases Nat.eq_zero_or_pos m with f | f
 ·have i:a.den=[]:=List.eq_nil_of_length_eq_zero (by rw [<- h.2.2.1.2.1,f])
  unfold RD.ok at d;rw [if_neg (by intro x;exact g x.1)] at d;simp [i] at d
 exact f
end
abbrev ct (G g2 g3:Nat) (v0 v1:Value) (W0 W:World):Prop:=((∀ b o,b<G->b≠g2->b≠g3->W.cell? ⟨b,o,none⟩=W0.cell? ⟨b,o,none⟩)/\(∀ b o,b<G->W.frozen? ⟨b,o,none⟩=W0.frozen? ⟨b,o,none⟩))/\G<=W.heap.size/\W.cell? ⟨g2,0,none⟩=some v0/\W.cell? ⟨g2,1,none⟩=some v1
theorem ct.of {G d l:Nat}{i f:Value}{a W:World}(h:G<=a.heap.size) (hb:Below a.heap.size a W) (g:d<a.heap.size) (k:a.cell? ⟨d,0,none⟩=some i) (j:a.cell? ⟨d,1,none⟩=some f):ct G d l i f a W :=
 ⟨⟨fun b o c _ _=>(cl hb).1 b o (Nat.lt_of_lt_of_le c h),fun b o c=>(cl hb).2 b o (Nat.lt_of_lt_of_le c h)⟩,Nat.le_trans h hb.size,((cl hb).1 _ _ g).trans k,((cl hb).1 _ _ g).trans j⟩
theorem jq {w:World}{p:Addr}{u:Value}(v:Value) (h:w.cell? p=some u) (a:p.spot=none):(w.setCell p v).cell? p=some v:=by
 obtain ⟨b,o,s⟩:=p;simp only at a;subst a;unfold World.cell? at h ⊢;simp only [World.setCell,Array.getElem?_modify,if_true] at h ⊢
 cases hh:w.heap[b]? with
 | none=>rw [hh] at h;simp at h
 | some ob =>
  rw [hh] at h;cases ob <;> simp_all;obtain ⟨c,_⟩:=Array.getElem?_eq_some_iff.1 h;simp [c]
theorem ct.set2 {G d l:Nat}{g f:Value}{j W:World}(h:ct G d l g f j W) {i:Nat}{u:Value}(k:(i=0/\u=g)\/(i=1/\u=f)):ct G d l g f j (W.setCell ⟨d,i,none⟩ u):=by
 refine ⟨⟨fun b o a c m=>?_,fun b o a=>?_⟩,?_,?_,?_⟩
 ·rw [<- h.1.1 b o a c m];unfold World.cell?;rw [Below.heap_setCell _ _ _ b c]
 ·rw [<- h.1.2 b o a];exact World.frozen?_setCell ..
 ·have:=h.2.1;simp [World.setCell];exact this
 ·rcases k with ⟨rfl,rfl⟩ | ⟨rfl,rfl⟩
  ·exact jq _ h.2.2.1 rfl
  rw [World.cell?_setCell_other _ _ _ _ (by simp)];exact h.2.2.1
 rcases k with ⟨rfl,rfl⟩ | ⟨rfl,rfl⟩
 ·rw [World.cell?_setCell_other _ _ _ _ (by simp)];exact h.2.2.2
 exact jq _ h.2.2.2 rfl
theorem ct.set3 {G d c:Nat}{l j:Value}{g W:World}(h:ct G d c l j g W) {i:Nat}{u:Value}(m:d≠c):ct G d c l j g (W.setCell ⟨c,i,none⟩ u):=by
 refine ⟨⟨fun b o a f k=>?_,fun b o a=>?_⟩,?_,?_,?_⟩
 ·rw [<- h.1.1 b o a f k];unfold World.cell?;rw [Below.heap_setCell _ _ _ b k]
 ·rw [<- h.1.2 b o a];exact World.frozen?_setCell ..
 ·have:=h.2.1;simp [World.setCell];exact this
 ·rw [World.cell?_setCell_other _ _ _ _ (by simp <;> omega)];exact h.2.2.1
 rw [World.cell?_setCell_other _ _ _ _ (by simp <;> omega)];exact h.2.2.2
theorem iI (w:World) (b:Bool) (A:Option Addr) (n c:Nat) (D:Option Addr) (m e:Nat) (a:RD) (k:Nat) (v:Bool) (h:QD w b A n c D m e a k) (d:k<=300000000) (f:a.ok=v) :
 Calls Tryz.prog 95 #[.agg #[.bool b,.slice A n c,.slice D m e]] w (ax w (.bool v)):=by subst f;exact Ba w b A n c D m e a k h d
theorem B3.p2 {W w:World}{a g f d:Nat}{c0 c1:Array Value}{i j:Value}(h:B3 W a g c0 f c1 d #[i,j] w) (c b:Value):B3 W a g c0 f c1 d #[c,b] ((w.setCell ⟨a+1+1,0,none⟩ c).setCell ⟨a+1+1,1,none⟩ b) :=
 ⟨(h.s.far (p:=⟨a+1+1,0,none⟩) (by show a≠a+1+1;omega) c).far (p:=⟨a+1+1,1,none⟩) (by show a≠a+1+1;omega) b,(h.t.far (p:=⟨a+1+1,0,none⟩) (by show a+1≠a+1+1;omega) c).far (p:=⟨a+1+1,1,none⟩) (by show a+1≠a+1+1;omega) b,(h.r.set_ 0 c).set_ 1 b,(h.q.setCell (p:=⟨a+1+1,0,none⟩) (by show a<=a+1+1;omega) c).setCell (p:=⟨a+1+1,1,none⟩) (by show a<=a+1+1;omega) b⟩
theorem oC (w:World) (b A n c D m e a k) (h:QD w b A n c D m e a k) (K:0<k) (z:k<=300000000) (p:a.ok=false\/n=0):Calls Tryz.prog 82 #[.agg #[.bool b,.slice A n c,.slice D m e]] w (oo w a.q.num a.q.den k):=by
 obtain ⟨v,f⟩:∃ v,a.ok=v:=⟨_,rfl⟩;have o:a.q.num=0/\(a.q.den:Int)=1:=CA (p.imp id fun E=>List.eq_nil_of_length_eq_zero (by rw [<- h.2.1.2.1,E]));rw [o.1,o.2];have u:v=true->((n:Int)==0)=true:=fun e=>by rcases p with h | h;rw [h] at f;rw [<- f] at e;cases e;simp [h]
 have G:=Qh f;have H:=Qh h;clear o f p h;go_in;go_upto_region 1 with fail;refine cQ ?_;intro x g;have d:B3 w w.heap.size 54 #[.bool b,.slice A n c,.slice D m e] 134 #[.bool false,.slice none 0 0] 134 #[.bool false,.slice none 0 0] x:=by rw [g];exact ⟨((Blk.new w _ _).alloc _).alloc _,(ak _ _ _ (by simp)).alloc _,ak _ _ _ (by simp),(((ae w).alloc Qr _).alloc (by simp) _).alloc (by simp <;> omega) _⟩
 clear g;have y:=d.s.v3;go_wp2_with fail;(refine (iI _ b A n c D m e a k v (H.out.belw d.q) z G.out).mono ?_);rintro e M ⟨rfl,i⟩;replace d:=d.call i;clear i y;have y:=d.s.v3;have key:∀ {P:Prop},(v=false->P)->(v=true->((n:Int)==0)=true->P)->P:=fun B l=>by cases v;exact B rfl;exact l rfl (u rfl)
 clear u;refine key (fun f=>?_) (fun f L=>?_)
 all_goals
  subst f;go_wp2_with fail;(refine (ug _).mono ?_);rintro e J ⟨C,F,I,c2,rfl,l,j⟩;replace d:=d.call j;clear j y;have y:=And.intro d.t.v2 d.r.v2;go_wp2_with fail;refine bodyPost_ret (v:=.tuple #[.agg #[.bool false,.slice none 0 0],.agg #[.bool C,.slice F I c2]]) (by simp [results,Tryz.results82,go_sem, *] <;> trivial) rfl ?_;have k2:=d.p1 (.bool false) (.slice none 0 0);exact ⟨_,_,_,_,_,_,_,_,rfl,IV.zero _ _,(l.keep ((d.t.k2 (by decide) _ _).trans (k2.r.k2 (by decide) _ _))).mono (by omega),(k2.p2 _ _).q⟩
theorem vH (w:World) (b A n c D m e a k) (h:QD w b A n c D m e a k) (h0:0<k) (hk:k<=300000000) (ho:a.ok=true) (hn:a.num≠[]) :
 Calls Tryz.prog 82 #[.agg #[.bool b,.slice A n c,.slice D m e]] w (oo w a.q.num a.q.den k):=by
 have HK:=Qh hk;have HO:=Qh ho;obtain ⟨e1,e2,e3⟩:=EN h.2.1.1 h.2.2.1.1 ho hn;have HE:=Qh (And.intro e1 (And.intro e2 e3));have bn:0<n:=by rcases Nat.eq_zero_or_pos n with h1 | h1;exact absurd (List.eq_nil_of_length_eq_zero (by rw [<- h.2.1.2.1,h1])) hn;exact h1
 have bv:0<m:=yr h ho hn;have en:((n:Int)==0)=false:=by simp;omega
 have b9:n<=300000000:=Nat.le_trans h.2.2.2.1 hk;have ch:m<=300000000:=Nat.le_trans h.2.2.2.2 hk;obtain ⟨i0,a8,aS,bb,a7⟩:=info_parts dP;obtain ⟨gA,oA,eA,cc,_⟩:=h.2.1.at2 bn;obtain ⟨gD,oD,eD,ca,_⟩:=h.2.2.1.at2 bv;subst eA eD;clear ho hn e1 e2 e3 hk;go_in;go_wp2_with fail;refine (iI _ b (some ⟨gA,oA,none⟩) n c (some ⟨gD,oD,none⟩) m e a k true ?_ ?_ ?_).mono ?_;(exact h.belw (((((Below.refl _ _).alloc Qr _).alloc (by simp) _).alloc (by simp <;> omega) _)));(exact HK.out);(exact HO.out);rintro e T ⟨rfl,V⟩;have q1:=V.q3;replace h:=h.belw q1;have p:Blk T w.heap.size 54 #[.bool b,.slice (some ⟨gA,oA,none⟩) n c,.slice (some ⟨gD,oD,none⟩) m e]:=(((ak _ _ _ (by simp)).alloc _).alloc _).below V (by simp <;> omega);have G:=((ak _ _ _ (g:=w.heap.size+1) (by simp)).alloc _).below V (by simp <;> omega);have l:=(ak _ _ _ (g:=w.heap.size+1+1) (by simp)).below V (by simp);have a3:=(ae w).trans (q1.mono (ae w).size);have cm:=V.l3;clear q1;obtain ⟨H,z,J⟩:=p.c3;obtain ⟨L,O,K,M⟩:=jh p.lt;have ao:=G.c2;have a1:=G.f2;have a6:=sM G.lt;obtain ⟨I,B⟩:=l.c2;obtain ⟨F,y⟩:=l.f2;obtain ⟨E,N,C,u⟩:=xE l.lt;go_wp2_with fail;have o:=World.ownsRow_lit (e:=173) (size:=1) T #[] 0 Qr (by simp [maxLen]) rfl;have S:=((h.2.1).keep ((Kp.refl T).alloc (.cells #[] 173))).news (by omega) Qr;have Y:(words (a.num.take n)).length=n*1:=by rw [cN,List.length_take];have:=(h.2.1).2.1;omega
 have ac:=Qh o;have a0:=Qh S;have X:=Qh Y;clear o S Y;have a5:¬ w.heap.size=w.heap.size+1:=by omega
 have an:¬ w.heap.size+1+1=w.heap.size+1:=by omega
 have br:¬ T.heap.size=w.heap.size+1:=by have:=G.lt;omega
 go_region_held3 (fun w'=>SeesX T.heap.size (w.heap.size+1) T w') (first | exact SeesX.of Qr (af (ae _) 1) | exact SeesX.of Qr ((af (ae _) 1).alloc Qr _) | exact SeesX.of Qr (((ae _).alloc Qr _).drew) | exact SeesX.of Qr (by assumption) | exact SeesX.set (SeesX.of Qr (by assumption)) | exact SeesX.set (SeesX.set (SeesX.of Qr (by assumption)))) ((refine step_append_lies _ rfl _ _ _ rfl T.heap.size 173 i0 (.int .u32 0) 1 4 Tryz.underlying52 a8 aS bb a7 rfl (by omega) _ 0 [] rfl (by first | exact ac.out | exact ac.out.drew) ⟨gA,oA,none⟩ n c (words (a.num.take n)) rfl X.out a0.out (fL _) (by omega) (by unfold maxLen;omega) (by omega) (by simp) (T.heap.size+1) (by simp) ?_;intro r d W o P aT b6;have qa:Below T.heap.size T W:=(((Below.refl _ _).alloc Qr _).drew).grown P (by simp) (fun b hb=>Nat.le_of_eq (Option.some.inj hb));have s:Blk W (w.heap.size+1) 134 #[.bool false,.slice none 0 0]:=G.below qa G.lt;obtain ⟨bd,a2⟩:=s.c2;obtain ⟨a4,aC⟩:=s.f2));simp only [Nat.zero_add,List.nil_append] at o
 have U:Wd W (some ⟨r,0,none⟩) n d a.num:=by
  have x:=Wd.of_own o (Wds.take (h.2.1).1 n);rwa [List.take_of_length_le (Nat.le_of_eq (h.2.1).2.1.symm)] at x
 clear o P aT ac a0 X;clear H z J L O K M ao a1 a6 I F B y E N C u;clear bd a2 a4 aC br a5 an;replace p:=p.b qa;replace l:=l.b qa;replace h:=h.belw qa;have bx:Below w.heap.size w W:=a3.trans (qa.mono a3.size);have ck:T.heap.size<=W.heap.size:=qa.size;clear G;go_wp2_with fail;have p5:=(((Kp.refl W).sb (w.heap.size+1) 0 s.box (by decide) (.bool b)).sb (w.heap.size+1) 1 (s.box.set ⟨w.heap.size+1,0,none⟩ (.bool b)) (by decide) (.slice (some ⟨r,0,none⟩) n d));have ad:=((bx.sc (w.heap.size+1) 0 (by omega) (.bool b)).sc (w.heap.size+1) 1 (by omega) (.slice (some ⟨r,0,none⟩) n d));replace p:=((p.fr (w.heap.size+1) 0 (by omega) (.bool b)).fr (w.heap.size+1) 1 (by omega) (.slice (some ⟨r,0,none⟩) n d));replace s:Blk ((W.setCell ⟨w.heap.size+1,0,none⟩ (.bool b)).setCell ⟨w.heap.size+1,1,none⟩ (.slice (some ⟨r,0,none⟩) n d)) (w.heap.size+1) 134 #[.bool b,.slice (some ⟨r,0,none⟩) n d]:=((s.set_at 0 (.bool b) #[.bool b,.slice none 0 0] (by simp)).set_at 1 (.slice (some ⟨r,0,none⟩) n d) #[.bool b,.slice (some ⟨r,0,none⟩) n d] (by simp));replace l:=((l.fr (w.heap.size+1) 0 (by omega) (.bool b)).fr (w.heap.size+1) 1 (by omega) (.slice (some ⟨r,0,none⟩) n d));have bw:W.heap.size+0<=((W.setCell ⟨w.heap.size+1,0,none⟩ (.bool b)).setCell ⟨w.heap.size+1,1,none⟩ (.slice (some ⟨r,0,none⟩) n d)).heap.size:=by simp
 generalize bg:((W.setCell ⟨w.heap.size+1,0,none⟩ (.bool b)).setCell ⟨w.heap.size+1,1,none⟩ (.slice (some ⟨r,0,none⟩) n d))=w5 at p5 ad bw p s l ⊢;clear bg;replace h:=h.keep p5;replace U:=U.keep p5;obtain ⟨H,z,J⟩:=p.c3;obtain ⟨L,O,K,M⟩:=jh p.lt;obtain ⟨f,i⟩:=s.c2;have bz:=s.f2;have bk:=sM s.lt;obtain ⟨I,B⟩:=l.c2;obtain ⟨F,y⟩:=l.f2;obtain ⟨E,N,C,u⟩:=xE l.lt;have j:=World.ownsRow_lit (e:=173) (size:=1) w5 #[] 0 Qr (by simp [maxLen]) rfl;have Q:=((h.2.2.1).keep ((Kp.refl w5).alloc (.cells #[] 173))).news (by omega) Qr;have ab:(words (a.den.take m)).length=m*1:=by rw [cN,List.length_take];have:=(h.2.2.1).2.1;omega
 have al:=Qh j;have a9:=Qh Q;have Z:=Qh ab;clear j Q ab;have a5:¬ w.heap.size=w.heap.size+1:=by omega
 have cb:¬ w.heap.size=w.heap.size+2:=by omega
 have an:¬ w.heap.size+1=w.heap.size+1+1:=by omega
 have bu:¬ w.heap.size=w.heap.size+1:=by omega
 clear bu;go_region_held3 (fun w'=>ct w5.heap.size (w.heap.size+1) (w.heap.size+1+1) (.bool b) (.slice (some ⟨r,0,none⟩) n d) w5 w') (first | with_reducible exact ct.of Qr ((ae _).drew) s.lt f i | with_reducible exact ct.of Qr (((ae _).alloc Qr _).drew) s.lt f i | with_reducible exact ct.of Qr (by assumption) s.lt f i | with_reducible exact (ct.set2 (ct.of Qr (by assumption) s.lt f i) (.inl ⟨rfl,rfl⟩)) | with_reducible exact (ct.set2 (ct.set2 (ct.of Qr (by assumption) s.lt f i) (.inl ⟨rfl,rfl⟩)) (.inr ⟨rfl,rfl⟩)) | with_reducible exact (ct.set3 (ct.set2 (ct.set2 (ct.of Qr (by assumption) s.lt f i) (.inl ⟨rfl,rfl⟩)) (.inr ⟨rfl,rfl⟩)) (by omega)) | with_reducible exact (ct.set3 (ct.set3 (ct.set2 (ct.set2 (ct.of Qr (by assumption) s.lt f i) (.inl ⟨rfl,rfl⟩)) (.inr ⟨rfl,rfl⟩)) (by omega)) (by omega))) ((refine step_append_lies _ rfl _ _ _ rfl w5.heap.size 173 i0 (.int .u32 0) 1 4 Tryz.underlying52 a8 aS bb a7 rfl (by omega) _ 0 [] rfl (by first | exact al.out | exact al.out.drew) ⟨gD,oD,none⟩ m e (words (a.den.take m)) rfl Z.out a9.out (fL _) (by omega) (by unfold maxLen;omega) (by omega) (by simp) (w5.heap.size+1) (by simp) ?_;intro gd t vd j R bf b7;have qd:Below w5.heap.size w5 vd:=(((Below.refl _ _).alloc Qr _).drew).grown R (by simp) (fun b hb=>Nat.le_of_eq (Option.some.inj hb));have z1:Blk vd (w.heap.size+1) 134 #[.bool b,.slice (some ⟨r,0,none⟩) n d]:=s.below qd s.lt;obtain ⟨b4,bY⟩:=z1.c2;obtain ⟨b0,b8⟩:=z1.f2;have z2:Blk vd (w.heap.size+1+1) 134 #[.bool false,.slice none 0 0]:=l.below qd l.lt;obtain ⟨b2,b1⟩:=z2.c2;obtain ⟨b5,b3⟩:=z2.f2));simp only [Nat.zero_add,List.nil_append] at j
 have bl:Wd vd (some ⟨gd,0,none⟩) m t a.den:=by
  have x:=Wd.of_own j (Wds.take (h.2.2.1).1 m);rwa [List.take_of_length_le (Nat.le_of_eq (h.2.2.1).2.1.symm)] at x
 clear j R bf al a9 Z;clear H z J L O K M f bz i bk I F B y E N C u;replace p:=p.b qd;replace U:=U.belw qd;have bs:Below w.heap.size w vd:=ad.trans (qd.mono ad.size);have cn:w5.heap.size<=vd.heap.size:=qd.size;go_wp2_with fail;refine bodyPost_ret (v:=.tuple #[.agg #[.bool b,.slice (some ⟨r,0,none⟩) n d],.agg #[.bool false,.slice (some ⟨gd,0,none⟩) m t]]) (by simp [results,Tryz.results82,go_sem, *] <;> trivial) rfl ?_;have kp:=(((((Kp.refl vd).sb (w.heap.size+1) 0 z1.box (by decide) (.bool b)).sb (w.heap.size+1) 1 (z1.box.set ⟨w.heap.size+1,0,none⟩ (.bool b)) (by decide) (.slice (some ⟨r,0,none⟩) n d)).sb (w.heap.size+1+1) 0 ((z2.box.set ⟨w.heap.size+1,0,none⟩ (.bool b)).set ⟨w.heap.size+1,1,none⟩ (.slice (some ⟨r,0,none⟩) n d)) (by decide) (.bool false)).sb (w.heap.size+1+1) 1 (((z2.box.set ⟨w.heap.size+1,0,none⟩ (.bool b)).set ⟨w.heap.size+1,1,none⟩ (.slice (some ⟨r,0,none⟩) n d)).set ⟨w.heap.size+1+1,0,none⟩ (.bool false)) (by decide) (.slice (some ⟨gd,0,none⟩) m t));exact ⟨b,some ⟨r,0,none⟩,n,d,false,some ⟨gd,0,none⟩,m,t,rfl,⟨h.1.symm.trans HE.out.2.1,HE.out.1 ▸ U.keep kp,h.2.2.2.1⟩,⟨by simp [wh],HE.out.2.2 ▸ bl.keep kp,h.2.2.2.2⟩,((((bs.sc (w.heap.size+1) 0 (by omega) (.bool b)).sc (w.heap.size+1) 1 (by omega) (.slice (some ⟨r,0,none⟩) n d)).sc (w.heap.size+1+1) 0 (by omega) (.bool false)).sc (w.heap.size+1+1) 1 (by omega) (.slice (some ⟨gd,0,none⟩) m t))⟩
theorem iJ (w:World) (b A n c D m e q k) (h:QZ w b A n c D m e q k) (f:0<k) (d:k<=300000000) :
 Calls Tryz.prog 82 #[.agg #[.bool b,.slice A n c,.slice D m e]] w (oo w q.num q.den k):=by
 obtain ⟨a,h,rfl⟩:=h;cases ho:a.ok
 ·exact oC w b A n c D m e a k h f d (.inl ho)
 by_cases hn:n=0
 ·exact oC w b A n c D m e a k h f d (.inr hn)
 exact vH w b A n c D m e a k h f d ho (h.num_ne (by omega))
theorem Dd (w:World) (b A n c z k) (h:IZ w b A n c z k) (b' A' n' c' z' k') (r:IZ w b' A' n' c' z' k') (q:Rat) (K:Nat) (hd:z'≠0) (G:Rat.divInt z z'=q) (J:Sz q K) (V:k+k'<=300000000) :
 Calls Tryz.prog 116 #[.agg #[.bool b,.slice A n c],.agg #[.bool b',.slice A' n' c']] w (jJ w .nilIface q K):=by
 obtain ⟨s,p⟩:∃ s,z'.sign=s:=⟨_,rfl⟩;have U:((s:Int)==0)=false:=by simp;rintro rfl;exact hd (Int.sign_eq_zero_iff_zero.1 p)
 have E:=Qh p;have T:=Qh hd;have O:=Qh G;have Q:=Qh J;clear p hd G J;go_in;go_wp2_with fail;refine (gS _ b' A' n' c' (z') (k') ?_ s ?_ ?_).mono ?_;(exact (r.belw ((((Below.refl _ _).alloc Qr _).alloc (by simp) _).alloc (by simp <;> omega) _)));(exact E.out);(omega);rintro e M ⟨rfl,d⟩;have q1:=d.q3;replace h:=h.belw q1;replace r:=r.belw q1;have m:Blk M w.heap.size 134 #[.bool b,.slice A n c]:=(((ak _ _ _ (by simp)).alloc _).alloc _).below d (by simp <;> omega);have l:=((ak _ _ _ (g:=w.heap.size+1) (by simp)).alloc _).below d (by simp <;> omega);have a:=(ak _ _ _ (g:=w.heap.size+1+1) (by simp)).below d (by simp);have o:=(ae w).trans (q1.mono (ae w).size);have P:=d.l3;clear q1;have y:=m.c2;have C:=jh m.lt;have u:=l.c2;have x:=sM l.lt;go_wp2_with fail;refine (yi _ b A n c (z) (k) ?_ b' A' n' c' (z') (k') ?_ q K ?_ ?_ ?_ ?_).mono ?_;(exact h);(exact r);(exact T.out);(exact O.out);(exact Q.out);(omega);rintro e S ⟨t,B,D,c2,f,j,i,rfl,N,q2⟩;clear y C u x;replace h:=h.belw q2;replace r:=r.belw q2;replace m:=m.b q2;replace l:=l.b q2;replace a:=a.b q2;have F:=o.trans (q2.mono o.size);have R:=q2.size;clear q2 o;have H:=a.c3;have L:=a.f3;have I:=xE a.lt;go_wp2_with fail;refine bodyPost_ret (v:=.tuple #[.agg #[.bool t,.slice B D c2,.slice f j i],.nilIface]) (by simp [results,Tryz.results116,go_sem, *] <;> trivial) rfl ?_;exact ⟨t,B,D,c2,f,j,i,rfl,N.keep ((((Kp.refl S).sb (w.heap.size+1+1) 0 a.box (by decide) (.bool t)).sb (w.heap.size+1+1) 1 (a.box.set ⟨w.heap.size+1+1,0,none⟩ (.bool t)) (by decide) (.slice B D c2)).sb (w.heap.size+1+1) 2 ((a.box.set ⟨w.heap.size+1+1,0,none⟩ (.bool t)).set ⟨w.heap.size+1+1,1,none⟩ (.slice B D c2)) (by decide) (.slice f j i)),(((F.sc (w.heap.size+1+1) 0 (by omega) (.bool t)).sc (w.heap.size+1+1) 1 (by omega) (.slice B D c2)).sc (w.heap.size+1+1) 2 (by omega) (.slice f j i))⟩
end Go.Proofs.YtndhgcfajlalhaaGreatDoor
namespace Bn
structure TN where
  t:Rat
  h:Bool
deriving DecidableEq
def TN.ok (a:TN):Prop:=a.h=true->a.t=0
/-! ### order -/
def lC (a b:Rat):Int:=if a<b then -1 else if a=b then 0 else 1
theorem cd {a b:Rat}:lC a b=0 ↔ a=b:=by
 unfold lC;split
 ·grind
 split
 ·simpa
 simpa
end Bn

/- Cells that are only read; turns as values. -/
namespace Go.Proofs.YtndhgcfajlalhaaGreatDoor
open Go Go.RowKit Bn
attribute [local go_sem ↓] Go.wp_at_zero Go.wp_at_succ
def Rd (w:World) (g:Nat) (cs:Array Value):Prop:=g<w.heap.size/\∀ i,i<cs.size->w.cell? ⟨g,i,none⟩=cs[i]?
section
variable {w w':World}{g:Nat}{cs:Array Value}
theorem Rd.lt (h:Rd w g cs):g<w.heap.size:=h.1
theorem Rd.cell (h:Rd w g cs) (i:Nat) (a:i<cs.size):w.cell? ⟨g,i,none⟩=cs[i]?:=h.2 i a
theorem Rd.below {B:Nat}(h:Rd w g cs) (hb:Below B w w') (b:g<B):Rd w' g cs:=by
 refine ⟨?_,fun i c=>?_⟩
 ·have:=hb.block g b
  rcases Nat.lt_or_ge g w'.heap.size with a | a
  ·exact a
  rw [Array.getElem?_eq_none a,Array.getElem?_eq_getElem h.1] at this;cases this
 rw [<- h.2 i c];unfold World.cell?;rw [hb.block g b]
theorem Rd.alloc (h:Rd w g cs) (o:Obj):Rd (w.alloc o) g cs:=by
 refine ⟨by have:=h.1;simp;omega,fun i a=>?_⟩;rw [<- h.2 i a];unfold World.cell?;rw [Below.heap_alloc w o g h.1]
theorem Rd.far (h:Rd w g cs) {p:Addr}(a:g≠p.block) (u:Value):Rd (w.setCell p u) g cs:=by
 refine ⟨by have:=h.1;simp [World.setCell];exact this,fun i b=>?_⟩;rw [<- h.2 i b];unfold World.cell?;rw [Below.heap_setCell w p u g a]
end
abbrev CB (G:Nat) (W0 W:World):Prop:=((∀ b o,b<G->W.cell? ⟨b,o,none⟩=W0.cell? ⟨b,o,none⟩)/\(∀ b o,b<G->W.frozen? ⟨b,o,none⟩=W0.frozen? ⟨b,o,none⟩))/\G<=W.heap.size
theorem CB.of {a W:World}(hb:Below a.heap.size a W):CB a.heap.size a W:=Sees.of Qr hb

abbrev qX (G g g':Nat) (W0 W:World):Prop:=((∀ b o,b<G->b≠g->b≠g'->W.cell? ⟨b,o,none⟩=W0.cell? ⟨b,o,none⟩)/\(∀ b o,b<G->W.frozen? ⟨b,o,none⟩=W0.frozen? ⟨b,o,none⟩))/\G<=W.heap.size
theorem qX.of {G g d:Nat}{c W:World}(h:G<=c.heap.size) (hb:Below c.heap.size c W):qX G g d c W :=
 ⟨⟨fun b o a _ _=>(cl hb).1 b o (Nat.lt_of_lt_of_le a h),fun b o a=>(cl hb).2 b o (Nat.lt_of_lt_of_le a h)⟩,Nat.le_trans h hb.size⟩
theorem qX.set2 {G g f:Nat}{j W:World}(h:qX G g f j W) {i:Nat}{u:Value}:qX G g f j (W.setCell ⟨f,i,none⟩ u):=by
 refine ⟨⟨fun b o c d a=>?_,fun b o c=>?_⟩,?_⟩
 ·rw [<- h.1.1 b o c d a];unfold World.cell?;rw [Below.heap_setCell _ _ _ b a]
 ·rw [<- h.1.2 b o c];exact World.frozen?_setCell ..
 have:=h.2;simp [World.setCell];exact this
def QK (w:World) (b:Bool) (A:Option Addr) (n c:Nat) (D:Option Addr) (m e:Nat) (q:Rat) (k:Nat):Prop:=∃ a,QD w b A n c D m e a k/\a.q=q/\a.ok=true
section
variable {w w':World}{b x:Bool}{A D:Option Addr}{n c m e k j:Nat}{q:Rat}{t:TN}
theorem QK.qz (h:QK w b A n c D m e q k):QZ w b A n c D m e q k:=by obtain ⟨a,f,d,_⟩:=h;exact ⟨a,f,d⟩
theorem QV.qk (h:QV w b A n c D m e q k):QK w b A n c D m e q k:=⟨_,h,xA q,mf q⟩
theorem QK.belw (h:QK w b A n c D m e q k) (hb:Below w.heap.size w w'):QK w' b A n c D m e q k:=by obtain ⟨a,f,d⟩:=h;exact ⟨a,f.belw hb,d⟩
theorem QK.keep (h:QK w b A n c D m e q k) (hb:Kp w w'):QK w' b A n c D m e q k:=by obtain ⟨a,f,d⟩:=h;exact ⟨a,f.keep hb,d⟩
theorem QK.mono (h:QK w b A n c D m e q k) (d:k<=j):QK w b A n c D m e q j:=by obtain ⟨a,g,f⟩:=h;exact ⟨a,g.mono d,f⟩
def TK (w:World) (b:Bool) (A:Option Addr) (n c:Nat) (D:Option Addr) (m e:Nat) (x:Bool) (t:TN) (k:Nat):Prop:=QK w b A n c D m e t.t k/\x=t.h/\t.ok
def TV (w:World) (b:Bool) (A:Option Addr) (n c:Nat) (D:Option Addr) (m e:Nat) (x:Bool) (t:TN) (k:Nat):Prop:=QV w b A n c D m e t.t k/\x=t.h/\t.ok
theorem TV.tk (h:TV w b A n c D m e x t k):TK w b A n c D m e x t k:=⟨h.1.qk,h.2⟩
theorem TK.belw (h:TK w b A n c D m e x t k) (hb:Below w.heap.size w w'):TK w' b A n c D m e x t k:=⟨h.1.belw hb,h.2⟩
theorem TK.keep (h:TK w b A n c D m e x t k) (hb:Kp w w'):TK w' b A n c D m e x t k:=⟨h.1.keep hb,h.2⟩
theorem TV.belw (h:TV w b A n c D m e x t k) (hb:Below w.heap.size w w'):TV w' b A n c D m e x t k:=⟨h.1.belw hb,h.2⟩
theorem TV.keep (h:TV w b A n c D m e x t k) (hb:Kp w w'):TV w' b A n c D m e x t k:=⟨h.1.keep hb,h.2⟩
theorem TK.mono (h:TK w b A n c D m e x t k) (a:k<=j):TK w b A n c D m e x t j:=⟨h.1.mono a,h.2⟩
theorem TK.qk (h:TK w b A n c D m e x t k):QK w b A n c D m e t.t k:=h.1
theorem TK.qz (h:TK w b A n c D m e x t k):QZ w b A n c D m e t.t k:=h.1.qz
theorem TV.qk (h:TV w b A n c D m e x t k):QK w b A n c D m e t.t k:=h.1.qk
theorem TV.qz (h:TV w b A n c D m e x t k):QZ w b A n c D m e t.t k:=h.1.qz
theorem TV.mono (h:TV w b A n c D m e x t k) (a:k<=j):TV w b A n c D m e x t j:=⟨h.1.mono a,h.2⟩
end

theorem jO {l:List Bool}{i:Nat}(h:l[i]?=some false):(l.set i true).count false+1=l.count false:=by
 induction l generalizing i with
 | nil=>simp at h
 | cons b l ih =>
  cases i with
  | zero=>simp at h;subst h;simp
  | succ i =>
   simp only [List.getElem?_cons_succ] at h;have:=ih h;simp only [List.set_cons_succ,List.count_cons];omega
section
variable {P:Program}{ops:Array Oper}{Q:Exit->Act->World->Prop}{md:Region.Mode}
theorem oE {L:Array Bool}{i:Nat}(h:i∈Region.ready md ops L):L.toList[i]?=some false:=by
 have a:=(mem_ready.1 h).1;rcases Nat.lt_or_ge i L.size with b | b
 ·rw [Array.getD_eq_getD_getElem?,Array.getElem?_eq_getElem b] at a
  simp only [Option.getD_some] at a;rw [Array.getElem?_toList,Array.getElem?_eq_getElem b,a]
 rw [Array.getD_eq_getD_getElem?,Array.getElem?_eq_none b] at a;cases a
theorem fO (A:Array Bool->Act->World->Prop)
 (c:∀ L a w i,L.size=ops.size->i∈Region.ready md ops L->A L a w->wpOp P ops Q i (A (L.setIfInBounds i true)) a w)
 (b:∀ L a w,L.size=ops.size->Region.ready md ops L=[]->A L a w->Q .normal a w) :
 ∀ (fuel:Nat) (L:Array Bool) (a:Act) (w:World),L.size=ops.size->L.toList.count false<=fuel->A L a w->wpAny P md ops Q fuel L a w:=by
 intro fuel
 induction fuel with
 | zero =>
  intro L a w f m g
  have d:Region.ready md ops L=[]:=by
   cases d:Region.ready md ops L with
   | nil=>rfl
   | cons i r =>
    have l:=oE (md:=md) (ops:=ops) (L:=L) (i:=i) (by rw [d];simp);have j:=jO l;omega
  exact ⟨d,b L a w f d g⟩
 | succ fuel ih =>
  intro L a w f m g;refine ⟨fun d=>b L a w f d g,fun i h=>wpOp_mono (fun a' n k=>ih _ _ _ (by simpa using f) ?_ k) (c L a w i f h g)⟩;have j:=jO (oE h);rw [Array.toList_setIfInBounds];omega
end
def dF (w:World) (g:Nat):Nat->List Value->World
  | _,[]=>w
  | i,u::us=>dF (w.setCell ⟨g,i,none⟩ u) g (i+1) us
def Bp (c:Array Value):Nat->List Value->Array Value
  | _,[]=>c
  | i,u::us=>Bp (c.setIfInBounds i u) (i+1) us
section
variable {g:Nat}{t:TypeId}
theorem ly:∀ (a:List Value) (i:Nat) (w:World) (c:Array Value),Blk w g t c->Blk (dF w g i a) g t (Bp c i a):=by
 intro a
 induction a with
 | nil=>intro i w c h;exact h
 | cons u a ih=>intro i w c h;exact ih (i+1) _ _ (h.set_ i u)
theorem fl {b:Nat}{c:TypeId}{d:Array Value}(f:b≠g):∀ (a:List Value) (i:Nat) (w:World),Blk w b c d->Blk (dF w g i a) b c d:=by
 intro a
 induction a with
 | nil=>intro i w h;exact h
 | cons u a ih=>intro i w h;exact ih (i+1) _ (h.far f u)
theorem dG {B:Nat}{a:World}(c:B<=g):∀ (b:List Value) (i:Nat) (w:World),Below B a w->Below B a (dF w g i b):=by
 intro b
 induction b with
 | nil=>intro i w h;exact h
 | cons u b ih=>intro i w h;exact ih (i+1) _ (h.setCell (p:=⟨g,i,none⟩) c u)
end
theorem jP {g:Nat}:∀ (a:List Value) (i:Nat) (w:World),(dF w g i a).heap.size=w.heap.size:=by
 intro a
 induction a with
 | nil=>intro i w;rfl
 | cons u a ih=>intro i w;rw [dF,ih];simp [World.setCell]
structure Flt where
  a:Nat
  s:Nat
  T:TypeId
  Z:Array Value
  PS:Array Value->World->Prop
  [hZ:NoU Z]
structure Own where
  g:Nat
  s:Nat
  o:Nat
  T:TypeId
  Z:Array Value
  PS:Array Value->World->Prop
  [hZ:NoU Z]
def upd (x:Nat->Value) (i:Nat) (v:Value):Nat->Value:=fun j=>if j=i then v else x j
theorem dR (x:Nat->Value) (i:Nat) (v:Value):upd x i v i=v:=by simp [upd]
theorem bD (x:Nat->Value) {i j:Nat}(v:Value) (h:j≠i):upd x i v j=x j:=by simp [upd,h]

section
variable (P:Program) (ops:Array Oper) (Q:Exit->Act->World->Prop) (fr:(Nat->Value)->Act) (R:Nat->Value->World->Prop) (es:List Flt) (ow:List Own) (B:Nat) (W:World)
end
theorem av {L:Array Bool}{i j:Nat}(a:i<L.size):(L.setIfInBounds i true).getD j false=(decide (j=i)||L.getD j false):=by
 rw [Array.getD_eq_getD_getElem?,Array.getD_eq_getD_getElem?,Array.getElem?_setIfInBounds];by_cases h:i=j
 ·subst h;simp [a]
 rw [if_neg h];simp [show ¬ j=i from fun e=>h e.symm]
section
variable {P:Program}{ops:Array Oper}{Q:Exit->Act->World->Prop}{fr:(Nat->Value)->Act}{R:Nat->Value->World->Prop}{es:List Flt}{ow:List Own}{B:Nat}
end

def jQ (S:Nat->Oper->Prop):Nat->List Oper->Prop
  | _,[]=>True
  | k,o::l=>S k o/\jQ S (k+1) l
theorem vI {S:Nat->Oper->Prop}:∀ (l:List Oper) (k:Nat),jQ S k l->∀ i o,l[i]?=some o->S (k+i) o:=by
 intro l
 induction l with
 | nil=>intro k _ i o h;simp at h
 | cons a l ih =>
  intro k h i o b
  cases i with
  | zero=>simp at b;subst b;exact h.1
  | succ i =>
   have:=ih (k+1) h.2 i o (by simpa using b);rw [show k+(i+1)=k+1+i by omega];exact this
theorem aw {S:Nat->Oper->Prop}{l:List Oper}(h:jQ S 0 l):∀ i o,(l.toArray)[i]?=some o->S i o:=fun i o a=>by
 have:=vI l 0 h i o (by simpa using a);rwa [Nat.zero_add] at this
def yt:Nat->List Oper->Bool
  | _,[]=>true
  | k,o::l=>o.after.all (fun e=>!Region.binds .any e||decide (e.on<k))&&yt (k+1) l
theorem bF:∀ (l:List Oper) (k:Nat),yt k l=true->jQ (fun i o=>∀ e∈o.after,Region.binds .any e=true->e.on<i) k l:=by
 intro l
 induction l with
 | nil=>intro k _;trivial
 | cons a l ih =>
  intro k h;simp only [yt,Bool.and_eq_true] at h;refine ⟨fun e b hb=>?_,ih _ h.2⟩;have:=(Array.all_eq_true_iff_forall_mem.1 h.1) e b;rw [hb] at this;simpa using this
def FJ (p:Value->World->Prop):Prop:=∀ v w w',p v w->Kp w w'->p v w'
def pz:List (Value->World->Prop)->Prop
  | []=>True
  | p::l=>FJ p/\pz l
theorem pz.get:∀ (l:List (Value->World->Prop)),pz l->∀ i v w a,l.getD i (fun _ _=>True) v w->Kp w a->l.getD i (fun _ _=>True) v a:=by
 intro l
 induction l with
 | nil=>intro _ i v w a _ _;simp
 | cons p l ih =>
  intro h i v w a b c
  cases i with
  | zero=>exact h.1 v w a b c
  | succ i=>exact ih h.2 i v w a b c
def PEq (u:Value):Value->World->Prop:=fun v _=>v=u
def fi:Value->World->Prop:=fun _ _=>True
def VQ (q:Rat) (k:Nat):Value->World->Prop:=fun v w=>∃ b A n c D m e,v=.agg #[.bool b,.slice A n c,.slice D m e]/\QV w b A n c D m e q k
def PV (w:World) (b:Bool) (A:Option Addr) (n c:Nat) (D:Option Addr) (m e:Nat) (b':Bool) (A':Option Addr) (n' c':Nat) (D':Option Addr) (m' e':Nat) (q:Rat) (k:Nat) (r:Rat) (j:Nat):Prop:=QV w b A n c D m e q k/\QV w b' A' n' c' D' m' e' r j
theorem PV.keep {w d:World}{b g:Bool}{A D o p:Option Addr}{n c m e a f s l k j:Nat}{q r:Rat}(h:PV w b A n c D m e g o a f p s l q k r j) (i:Kp w d):PV d b A n c D m e g o a f p s l q k r j:=⟨h.1.keep i,h.2.keep i⟩
theorem PV.belw {w d:World}{b g:Bool}{A D o p:Option Addr}{n c m e a f s l k j:Nat}{q r:Rat}(h:PV w b A n c D m e g o a f p s l q k r j) (i:Below w.heap.size w d):PV d b A n c D m e g o a f p s l q k r j:=⟨h.1.belw i,h.2.belw i⟩
theorem iK (w:World) (b:Bool) (A:Option Addr) (n c:Nat) (D:Option Addr) (m e:Nat) (a:RD) (k:Nat) (v:Bool) (h:QD w b A n c D m e a k) (d:k<=300000000) (f:a.ok=v) :
 Calls Tryz.prog 92 #[.agg #[.bool b,.slice A n c,.slice D m e]] w (ax w (.bool v)):=by subst f;exact Bo w b A n c D m e a k h d
theorem oG (w:World) (b A n c D m e a k) (h:QD w b A n c D m e a k) (K:0<k) (z:k<=300000000) (p:a.ok=false\/n=0):Calls Tryz.prog 167 #[.agg #[.bool b,.slice A n c,.slice D m e]] w (oo w a.q.num a.q.den k):=by
 obtain ⟨v,f⟩:∃ v,a.ok=v:=⟨_,rfl⟩;have o:a.q.num=0/\(a.q.den:Int)=1:=CA (p.imp id fun E=>List.eq_nil_of_length_eq_zero (by rw [<- h.2.1.2.1,E]));rw [o.1,o.2];have u:v=true->((n:Int)==0)=true:=fun e=>by rcases p with h | h;rw [h] at f;rw [<- f] at e;cases e;simp [h]
 have G:=Qh f;have H:=Qh h;clear o f p h;go_in;go_upto_region 1 with fail;refine cQ ?_;intro x g;have d:B3 w w.heap.size 54 #[.bool b,.slice A n c,.slice D m e] 134 #[.bool false,.slice none 0 0] 134 #[.bool false,.slice none 0 0] x:=by rw [g];exact ⟨((Blk.new w _ _).alloc _).alloc _,(ak _ _ _ (by simp)).alloc _,ak _ _ _ (by simp),(((ae w).alloc Qr _).alloc (by simp) _).alloc (by simp <;> omega) _⟩
 clear g;have y:=d.s.v3;go_wp2_with fail;(refine (iK _ b A n c D m e a k v (H.out.belw d.q) z G.out).mono ?_);rintro e M ⟨rfl,i⟩;replace d:=d.call i;clear i y;have y:=d.s.v3;have key:∀ {P:Prop},(v=false->P)->(v=true->((n:Int)==0)=true->P)->P:=fun B l=>by cases v;exact B rfl;exact l rfl (u rfl)
 clear u;refine key (fun f=>?_) (fun f L=>?_)
 all_goals
  subst f;go_wp2_with fail;(refine (yq _).mono ?_);rintro e J ⟨C,F,I,c2,rfl,l,j⟩;replace d:=d.call j;clear j y;have y:=And.intro d.t.v2 d.r.v2;go_wp2_with fail;refine bodyPost_ret (v:=.tuple #[.agg #[.bool false,.slice none 0 0],.agg #[.bool C,.slice F I c2]]) (by simp [results,Tryz.results167,go_sem, *] <;> trivial) rfl ?_;have k2:=d.p1 (.bool false) (.slice none 0 0);exact ⟨_,_,_,_,_,_,_,_,rfl,IV.zero _ _,(l.keep ((d.t.k2 (by decide) _ _).trans (k2.r.k2 (by decide) _ _))).mono (by omega),(k2.p2 _ _).q⟩
theorem vJ (w:World) (b A n c D m e a k) (h:QD w b A n c D m e a k) (_:0<k) (B:k<=300000000) (o:a.ok=true) (p:a.num≠[]):Calls Tryz.prog 167 #[.agg #[.bool b,.slice A n c,.slice D m e]] w (oo w a.q.num a.q.den k):=by
 have E:=Qh (EN h.2.1.1 h.2.2.1.1 o p);have F:0<n:=by rcases Nat.eq_zero_or_pos n with j | j;exact absurd (List.eq_nil_of_length_eq_zero (by rw [<- h.2.1.2.1,j])) p;exact j
 have H:((n:Int)==0)=false:=by simp;omega
 have C:=Qh o;clear o p;go_in;go_upto_region 1 with fail;refine cQ ?_;intro z g;have d:B3 w w.heap.size 54 #[.bool b,.slice A n c,.slice D m e] 134 #[.bool false,.slice none 0 0] 134 #[.bool false,.slice none 0 0] z:=by rw [g];exact ⟨((Blk.new w _ _).alloc _).alloc _,(ak _ _ _ (by simp)).alloc _,ak _ _ _ (by simp),(((ae w).alloc Qr _).alloc (by simp) _).alloc (by simp <;> omega) _⟩
 clear g;have y:=d.s.v3;go_wp2_with fail;(refine (iK _ b A n c D m e a k true (h.belw d.q) B C.out).mono ?_);rintro G I ⟨rfl,i⟩;replace d:=d.call i;replace h:=h.belw d.q;clear i y;have y:=And.intro d.s.v3 (And.intro d.t.v2 d.r.v2);go_wp2_with fail;have k2:=(d.p1 (.bool b) (.slice A n c)).p2 (.bool false) (.slice D m e);have kp:=(d.t.k2 (by decide) (.bool b) (.slice A n c)).trans ((d.p1 (.bool b) (.slice A n c)).r.k2 (by decide) (.bool false) (.slice D m e));have k3:=(d.p2 (.bool false) (.slice D m e)).p1 (.bool b) (.slice A n c);have f:=(d.r.k2 (by decide) (.bool false) (.slice D m e)).trans ((d.p2 (.bool false) (.slice D m e)).t.k2 (by decide) (.bool b) (.slice A n c));go_region
 all_goals
  go_wp2_with fail;refine bodyPost_ret (v:=.tuple #[.agg #[.bool b,.slice A n c],.agg #[.bool false,.slice D m e]]) (by simp [results,Tryz.results167,go_sem, *] <;> trivial) rfl ?_;obtain ⟨u,l,x⟩:=E.out
  first
   | exact ⟨b,A,n,c,false,D,m,e,rfl,⟨h.1.symm.trans l,u ▸ h.2.1.keep kp,h.2.2.2.1⟩,⟨by simp [wh],x ▸ h.2.2.1.keep kp,h.2.2.2.2⟩,k2.q⟩
   | exact ⟨b,A,n,c,false,D,m,e,rfl,⟨h.1.symm.trans l,u ▸ h.2.1.keep kp.drew,h.2.2.2.1⟩,⟨by simp [wh],x ▸ h.2.2.1.keep kp.drew,h.2.2.2.2⟩,k2.q.drew⟩
   | exact ⟨b,A,n,c,false,D,m,e,rfl,⟨h.1.symm.trans l,u ▸ h.2.1.keep f.drew,h.2.2.2.1⟩,⟨by simp [wh],x ▸ h.2.2.1.keep f.drew,h.2.2.2.2⟩,k3.q.drew⟩
theorem lM (w:World) (b A n c D m e q k) (h:QZ w b A n c D m e q k) (f:0<k) (d:k<=300000000) :
 Calls Tryz.prog 167 #[.agg #[.bool b,.slice A n c,.slice D m e]] w (oo w q.num q.den k):=by
 obtain ⟨a,h,rfl⟩:=h;cases ho:a.ok
 ·exact oG w b A n c D m e a k h f d (.inl ho)
 by_cases hn:n=0
 ·exact oG w b A n c D m e a k h f d (.inr hn)
 exact vJ w b A n c D m e a k h f d ho (h.num_ne (by omega))
theorem De (w:World) (b A n c D m e q k) (h:QZ w b A n c D m e q k) (G:0<k) (H:k<=40000000) :
 Calls Tryz.prog 132 #[.agg #[.bool b,.slice A n c,.slice D m e]] w (ax w (.int .i64 q.num.sign)):=by
 go_in;go_wp2_with fail;refine (lM _ b A n c D m e (q) (k) ?_ ?_ ?_).mono ?_;(exact (h.belw ((Below.refl _ _).alloc Qr _)));(omega);(omega);rintro e l ⟨r,s,t,c1,u,y,B,v,rfl,o,i,f⟩;have q1:=f.q1;replace h:=h.belw q1;have j:Blk l w.heap.size 54 #[.bool b,.slice A n c,.slice D m e]:=(ak _ _ _ (by simp)).below f (by simp);have d:=(ae w).trans (q1.mono (ae w).size);have x:=f.l1;clear q1;go_wp2_with fail;refine (mz _ r s t c1 ((q).num) ((k)) ?_ ?_).mono ?_;(exact (o.belw (((Below.refl _ _).alloc Qr _).alloc (by simp) _)).iz);(omega);rintro e F ⟨rfl,a⟩;have q2:=a.q2;replace h:=h.belw q2;replace o:=o.belw q2;replace i:=i.belw q2;replace j:=j.b q2;have C:Blk F l.heap.size 134 #[.bool r,.slice s t c1]:=((ak _ _ _ (by simp)).alloc _).below a (by simp <;> omega);have z:=(ak _ _ _ (g:=l.heap.size+1) (by simp)).below a (by simp);have p:=d.trans (q2.mono d.size);have E:=a.l2;clear q2 d;go_wp2;go_ret;exact cM rfl p
theorem QK.qv {w:World}{b:Bool}{A D:Option Addr}{n c m e k:Nat}{q:Rat}(h:QK w b A n c D m e q k):QV w b A n c D m e q k:=by
 obtain ⟨a,d,rfl,f⟩:=h;unfold QV;rw [eN d.2.1.1 d.2.2.1.1 f];exact d
theorem TK.tv {w:World}{b x:Bool}{A D:Option Addr}{n c m e k:Nat}{t:TN}(h:TK w b A n c D m e x t k):TV w b A n c D m e x t k:=⟨h.1.qv,h.2⟩
def Ts (w:World) (g n k:Nat):Prop:=g<w.heap.size/\∀ i,i<n->∃ b A m c D m' e x t,w.cell? ⟨g,i*4,none⟩=some (.bool b)/\w.cell? ⟨g,i*4+1,none⟩=some (.slice A m c)/\w.cell? ⟨g,i*4+2,none⟩=some (.slice D m' e)/\w.cell? ⟨g,i*4+3,none⟩=some (.bool x)/\TK w b A m c D m' e x t k
theorem Ts.belw {w f:World}{g n k:Nat}(h:Ts w g n k) (hb:Below w.heap.size w f):Ts f g n k:=by
 obtain ⟨a,h⟩:=h;have d:=(cl hb).1;refine ⟨Nat.lt_of_lt_of_le a hb.size,fun i o=>?_⟩;obtain ⟨b,A,m,c,D,p,e,x,t,r,j,l,q,s⟩:=h i o;exact ⟨b,A,m,c,D,p,e,x,t,(d _ _ a).trans r,(d _ _ a).trans j,(d _ _ a).trans l,(d _ _ a).trans q,s.belw hb⟩
def Rs (w:World) (g N:Nat) (ns ms:Nat->Nat):Prop:=g<w.heap.size/\∀ i,i<N->∃ b A c D e,w.cell? ⟨g,i*3,none⟩=some (.bool b)/\w.cell? ⟨g,i*3+1,none⟩=some (.slice A (ns i) c)/\w.cell? ⟨g,i*3+2,none⟩=some (.slice D (ms i) e)
theorem Rs.belw {w j:World}{g N:Nat}{k f:Nat->Nat}(h:Rs w g N k f) (hb:Below w.heap.size w j):Rs j g N k f:=by
 obtain ⟨a,h⟩:=h;have d:=(cl hb).1;refine ⟨Nat.lt_of_lt_of_le a hb.size,fun i o=>?_⟩;obtain ⟨b,A,c,D,e,m,l,n⟩:=h i o;exact ⟨b,A,c,D,e,(d _ _ a).trans m,(d _ _ a).trans l,(d _ _ a).trans n⟩
def Gs (w:World) (g N k:Nat) (rs:Nat->RD) (xs:Nat->Bool):Prop:=g<w.heap.size/\∀ i,i<N->∃ b A m c D m' e,w.cell? ⟨g,i*4,none⟩=some (.bool b)/\w.cell? ⟨g,i*4+1,none⟩=some (.slice A m c)/\w.cell? ⟨g,i*4+2,none⟩=some (.slice D m' e)/\w.cell? ⟨g,i*4+3,none⟩=some (.bool (xs i))/\QD w b A m c D m' e (rs i) k
theorem Gs.belw {w j:World}{g N k:Nat}{f:Nat->RD}{l:Nat->Bool}(h:Gs w g N k f l) (hb:Below w.heap.size w j):Gs j g N k f l:=by
 obtain ⟨a,h⟩:=h;have d:=(cl hb).1;refine ⟨Nat.lt_of_lt_of_le a hb.size,fun i p=>?_⟩;obtain ⟨b,A,m,c,D,q,e,s,n,o,r,t⟩:=h i p;exact ⟨b,A,m,c,D,q,e,(d _ _ a).trans s,(d _ _ a).trans n,(d _ _ a).trans o,(d _ _ a).trans r,t.belw hb⟩
theorem pA (w:World) (A n c l) (k:Wd w A n c l) (m:Option Addr) (a p:Nat) (f:Wd w m a p l) (C:n<=1000000000) :
 Calls Tryz.prog 117 #[.slice A n c,.slice m a p] w (ax w (.bool true)):=by
 have h:a=n:=by rw [k.2.1,f.2.1]
 subst h;have v:=Qh k;have t:=Qh f;clear k f;go_in;go_wp2_with fail;go_loopw [5] (fun j wr=>∃ (i q:Nat),i<=a/\j=.int .i64 (i:Nat)/\wr=w.drewN q) (fun j _=>a-(intOf j).toNat)
 case atStart=>exact ⟨0,0,Nat.zero_le _,rfl,rfl⟩
 case round =>
  obtain ⟨i,q,B,rfl,rfl⟩:=hrel;by_cases hlt:i<a
  ·obtain ⟨g,o,rfl,d⟩:=v.out.at_ (by omega)
   obtain ⟨D,z,rfl,b⟩:=t.out.at_ (by omega);have u:=d i hlt;have s:=b i hlt;have y:(0:Int)<=(i:Int):=by omega
   have r:(i:Int)<(a:Int):=by omega
   generalize wd l i=x at u s;clear d b;go_wp2_with fail;go_quiet (fail);go_wp2;go_roundw
   case rel=>exact ⟨i+1,_,by omega,by go_num,rfl⟩
   case measure=>simp [intOf];omega
  go_wp2;go_ret;exact bW rfl (by repeat (first | exact Below.refl _ _ | refine af ?_ _))
end Go.Proofs.YtndhgcfajlalhaaGreatDoor

/- Decimal texts: plain numbers and lists of bytes. -/
namespace Bn
open Go.Lib
theorem yu {q d:Nat}(a:0<q) (hd:d<10):decDigits (q*10+d)=decDigits q++[UInt8.ofNat (48+d)]:=by
 rw [decDigits,dif_neg (by omega),show (q*10+d)/10=q by omega,show (q*10+d)%10=d by omega]
def qY:Nat->Nat->List UInt8
  | 0,_=>[]
  | k+1,r=>qY k (r/10)++[UInt8.ofNat (48+r%10)]
theorem ul:∀ (k:Nat) {q r:Nat},0<q->r<10^k->decDigits (q*10^k+r)=decDigits q++qY k r
 | 0,q,r,_,hr=>by
  have:r=0:=by simpa using hr
  subst this;simp [qY]
 | k+1,q,r,hq,hr=>by
  have a:r/10<10^k:=by rw [Nat.pow_succ] at hr;omega
  have b:0<q*10^k:=Nat.mul_pos hq (Nat.pow_pos (by omega))
  have e:q*10^(k+1)+r=(q*10^k+r/10)*10+r%10:=by
   rw [Nat.pow_succ,<- Nat.mul_assoc];generalize q*10^k=P;omega
  rw [e,yu (by omega) (Nat.mod_lt _ (by omega)),ul k hq a,qY,List.append_assoc]
theorem pB:∀ {k u:Nat},0<k->u<10^k->nDigits u<=k
 | 0,_,h,_=>absurd h (by omega)
 | k+1,u,_,hu=>by
  by_cases h:u<10
  ·rw [nDigits_small h];omega
  rw [nDigits_big h];have a:k≠0:=by rintro rfl;exact h (by simpa using hu)
  have:=pB (k:=k) (u:=u/10) (by omega) (by rw [Nat.pow_succ] at hu;omega);omega
theorem qZ:∀ k,qY k 0=repeatL [48] k
 | 0=>rfl
 | k+1=>by rw [qY,qZ k,repeatL_add,repeatL_one];rfl
theorem yv:∀ {k r:Nat},0<k->r<10^k->qY k r=repeatL [48] (k-nDigits r)++decDigits r
 | 0,_,h,_=>absurd h (by omega)
 | k+1,r,_,hr=>by
  rw [qY];by_cases h:r<10
  ·rw [Nat.div_eq_of_lt h,qZ,nDigits_small h,decDigits_one h,Nat.mod_eq_of_lt h];rfl
  have a:k≠0:=by rintro rfl;exact h (by simpa using hr)
  rw [yv (k:=k) (r:=r/10) (by omega) (by rw [Nat.pow_succ] at hr;omega),nDigits_big h,List.append_assoc];congr 1
  ·congr 1;omega
  conv=>rhs;rw [decDigits,dif_neg h]
def lD (N q:Nat) (ps:List (List UInt8)):Prop:=(0<q->decDigits N=decDigits q++ps.flatten)/\(q=0->decDigits N=ps.flatten)/\ps.length<=ps.flatten.length
theorem lD.start {N:Nat}(h:0<N):lD N N []:=⟨fun _=>by simp,fun e=>absurd e (by omega),by simp⟩
theorem lD.more {N q:Nat}{a:List (List UInt8)}(h:lD N q a) (c:0<q/1000000000) :
 lD N (q/1000000000) ((repeatL [48] (9-nDigits (q%1000000000))++decDigits (q%1000000000))::a):=by
 have b:q%1000000000<10^9:=Nat.mod_lt _ (by omega);have e:q/1000000000*10^9+q%1000000000=q:=by rw [Nat.mul_comm];exact Nat.div_add_mod q 1000000000
 refine ⟨fun _=>?_,fun e=>absurd e (by omega),?_⟩
 ·rw [h.1 (by omega),List.flatten_cons,<- List.append_assoc,<- yv (by omega) b,<- ul 9 c b,e]
 have f:=h.2.2;have d:=nDigits_pos (q%1000000000);simp only [List.length_cons,List.flatten_cons,List.length_append,decDigits_length];omega
theorem lD.last {N q:Nat}{a:List (List UInt8)}(h:lD N q a) (b:0<q) (d:q/1000000000=0) :
 lD N (q/1000000000) (decDigits (q%1000000000)::a):=by
 have e:q%1000000000=q:=Nat.mod_eq_of_lt (by omega);rw [e];refine ⟨fun e=>absurd e (by omega),fun _=>?_,?_⟩
 ·rw [h.1 b,List.flatten_cons]
 have c:=h.2.2;have f:=nDigits_pos q;simp only [List.length_cons,List.flatten_cons,List.length_append,decDigits_length];omega
theorem lD.len {N q:Nat}{a:List (List UInt8)}(h:lD N q a):a.flatten.length<=nDigits N/\a.length<=nDigits N:=by
 have b:=h.2.2
 have:a.flatten.length<=nDigits N:=by
  rw [<- decDigits_length];rcases Nat.eq_zero_or_pos q with e | e
  ·rw [h.2.1 e];exact Qr
  rw [h.1 e,List.length_append];omega
 exact ⟨this,by omega⟩
theorem s9 {N n:Nat}(a:0<n) (h:N<4294967296^n):nDigits N<=10*n:=by
 refine pB (by omega) (Nat.lt_of_lt_of_le h ?_);rw [Nat.pow_mul];exact Nat.pow_le_pow_left (by omega) n
theorem gV {N n K:Nat}(a:n<=K) (b:0<K) (h:N<4294967296^n):nDigits N<=10*K :=
 s9 b (Nat.lt_of_lt_of_le h (Nat.pow_le_pow_right (by omega) a))
theorem vK (a:List (List UInt8)):join a []=a.flatten:=by
 cases a with
 | nil=>rfl
 | cons x r=>rw [join_cons,joinTail];simp
theorem jR (z:Int):itoa z=(if z<0 then [45] else [])++decDigits z.natAbs:=by
 unfold itoa;split
 ·rfl
 rw [show z.toNat=z.natAbs by omega];rfl
end Bn

/- Digits one by one; texts read as numbers: plain. -/
namespace Bn
open Go.Lib
def dg (V:Nat):List UInt8:=if V=0 then [] else decDigits V
theorem Bq {V:Nat}(h:0<V):dg V=dg (V/10)++[UInt8.ofNat (48+V%10)]:=by
 unfold dg;rw [if_neg (by omega)];by_cases h1:V<10
 ·rw [if_pos (by omega),decDigits_one h1,Nat.mod_eq_of_lt h1];rfl
 rw [if_neg (by omega)];conv=>lhs;rw [decDigits,dif_neg h1]
def DgI (N q k r:Nat) (s:List UInt8):Prop:=decDigits N=dg (q*10^(9-k)+r)++s/\r<10^(9-k)
theorem DgI.start {N Q:Nat}{s:List UInt8}(h:decDigits N=dg Q++s):DgI N (Q/1000000000) 0 (Q%1000000000) s:=by
 refine ⟨?_,Nat.mod_lt _ (by decide)⟩;rw [show Q/1000000000*10^(9-0)+Q%1000000000=Q by rw [Nat.mul_comm];exact Nat.div_add_mod Q 1000000000];exact h
theorem DgI.step {N q k r:Nat}{s:List UInt8}(h:DgI N q k r s) (i:k<9) (c:0<r\/0<q):DgI N q (k+1) (r/10) ([UInt8.ofNat (48+r%10)]++s):=by
 obtain ⟨a,b⟩:=h;have e:10^(9-k)=10^(9-(k+1))*10:=by rw [<- Nat.pow_succ];congr 1;omega
 rw [e] at a b;have g:0<10^(9-(k+1)):=Nat.pow_pos (by omega);unfold DgI;generalize 10^(9-(k+1))=P at *;have f:q*(P*10)+r=(q*P+r/10)*10+r%10:=by rw [<- Nat.mul_assoc];omega
 have d:0<q*(P*10)+r:=by
  rcases c with h | h
  ·omega
  have:=Nat.mul_pos h (show 0<P*10 by omega);omega
 refine ⟨?_,by omega⟩;rw [a,Bq d,f,show ((q*P+r/10)*10+r%10)/10=q*P+r/10 by omega,show ((q*P+r/10)*10+r%10)%10=r%10 by omega,List.append_assoc]
theorem Df {N Q:Nat}{s:List UInt8}(h:decDigits N=dg Q++s):s.length<=nDigits N:=by
 rw [<- decDigits_length,h,List.length_append];omega
theorem DgI.len {N q k r:Nat}{s:List UInt8}(h:DgI N q k r s):s.length<=nDigits N:=Df h.1

/-! ### Texts read -/
def aX (c:UInt8):Bool:=decide (48<=c.toNat)&&decide (c.toNat<=57)
def kQ (c:UInt8):Nat:=c.toNat-48
def ar (l:List UInt8):Nat:=l.foldl (fun a c=>a*10+kQ c) 0
theorem vL (l:List UInt8):∀ a,l.foldl (fun a c=>a*10+kQ c) a=a*10^l.length+ar l:=by
 unfold ar
 induction l with
 | nil=>intro a;simp
 | cons x r ih =>
  intro a;rw [List.foldl_cons,ih,List.foldl_cons,ih (0*10+kQ x),List.length_cons,Nat.pow_succ,Nat.add_mul];rw [Nat.zero_mul,Nat.zero_add,Nat.mul_assoc,Nat.mul_comm 10,Nat.add_assoc]
theorem gw (a b:List UInt8):ar (a++b)=ar a*10^b.length+ar b:=by
 conv=>lhs;unfold ar
 rw [List.foldl_append,vL];rfl
theorem gW (a:List UInt8) (c:UInt8):ar (a++[c])=ar a*10+kQ c:=by
 rw [gw];simp [ar]
theorem eH:∀ {l:List UInt8},l.all aX=true->ar l<10^l.length:=by
 intro l
 induction l with
 | nil=>intro _;simp [ar]
 | cons x r ih =>
  intro h;rw [List.all_cons,Bool.and_eq_true] at h;have b:=ih h.2
  have a:kQ x<=9:=by
   have:=h.1;unfold aX at this;simp at this;unfold kQ;omega
  have e:ar (x::r)=kQ x*10^r.length+ar r:=by
   have:=gw [x] r;simpa [ar] using this
  rw [e,List.length_cons,Nat.pow_succ];have:=Nat.mul_le_mul_right (10^r.length) a;omega
def bT (l:List UInt8):List UInt8:=match l with | 45::r=>r | l=>l
def cw (l:List UInt8):Bool:=match l with | 45::_=>true | _=>false
def okZ (l:List UInt8):Bool:=decide (bT l≠[])&&(bT l).all aX && !(decide ((bT l).head?=some 48)&&(decide (1<(bT l).length)||cw l))
def eT (l:List UInt8):Int:=if cw l then -(ar (bT l):Int) else ar (bT l)
theorem ra {d:Nat}(h:d<10):aX (UInt8.ofNat (48+d))=true/\kQ (UInt8.ofNat (48+d))=d:=by
 have e:(UInt8.ofNat (48+d)).toNat=48+d:=by simp;omega
 unfold aX kQ;rw [e];simp;omega
theorem Br (n:Nat):(decDigits n).all aX=true/\ar (decDigits n)=n:=by
 induction n using Nat.strongRecOn with
 | ind n ih =>
  by_cases h:n<10
  ·rw [decDigits_one h]
   have a:=ra h;generalize UInt8.ofNat (48+n)=c at a;refine ⟨by rw [List.all_cons,a.1];rfl,?_⟩;rw [<- List.nil_append [c],gW,a.2];simp [ar]
  ·have e:decDigits n=decDigits (n/10)++[UInt8.ofNat (48+n%10)]:=by
    conv=>lhs;rw [decDigits,dif_neg h]
   have a:=ih (n/10) (by omega);have b:=ra (Nat.mod_lt n (show 0<10 by omega));generalize UInt8.ofNat (48+n%10)=c at b e;refine ⟨by rw [e,List.all_append,a.1,List.all_cons,b.1];rfl,?_⟩;rw [e,gW,a.2,b.2];omega
theorem yw {n:Nat}(h:0<n):∃ c r,decDigits n=c::r/\c≠48/\c≠45:=by
 induction n using Nat.strongRecOn with
 | ind n ih =>
  by_cases h1:n<10
  ·rw [decDigits_one h1]
   refine ⟨_,[],rfl,?_,?_⟩
   ·intro e
    have:=congrArg UInt8.toNat e;simp at this;omega
   intro e;have:=congrArg UInt8.toNat e;simp at this;omega
  ·have e:decDigits n=decDigits (n/10)++[UInt8.ofNat (48+n%10)]:=by
    conv=>lhs;rw [decDigits,dif_neg h1]
   obtain ⟨c,r,b,a⟩:=ih (n/10) (by omega) (by omega);exact ⟨c,r++[UInt8.ofNat (48+n%10)],by rw [e,b];rfl,a⟩
theorem Bs (z:Int):okZ (itoa z)=true/\eT (itoa z)=z:=by
 rw [jR];rcases Nat.eq_zero_or_pos z.natAbs with h | h
 ·have:z=0:=by omega
  subst this;rw [if_neg (by decide),show (0:Int).natAbs=0 from rfl,decDigits_one (by omega)];decide
 obtain ⟨c,r,e,f,g⟩:=yw h;have a:=Br z.natAbs;by_cases hz:z<0
 ·rw [if_pos hz]
  have d:bT ([45]++decDigits z.natAbs)=decDigits z.natAbs:=rfl;have b:cw ([45]++decDigits z.natAbs)=true:=rfl;unfold okZ eT;rw [d,b,a.1,a.2,e];simp [f];omega
 rw [if_neg hz,List.nil_append];have d:bT (decDigits z.natAbs)=decDigits z.natAbs:=by rw [e];unfold bT;split <;> simp_all
 have b:cw (decDigits z.natAbs)=false:=by rw [e];unfold cw;split <;> simp_all
 unfold okZ eT;rw [d,b,a.1,a.2,e];simp [f];omega
end Bn

/- Texts read as numbers: what the library's functions give on digits. Plain. -/
namespace Bn
open Go.Lib
theorem rb {c:UInt8}(h:aX c=true):digitVal c=some (kQ c):=by
 unfold aX at h;rw [Bool.and_eq_true,decide_eq_true_eq,decide_eq_true_eq] at h;unfold digitVal kQ;rw [if_pos h]
theorem ta:∀ {l:List UInt8},l.all aX=true->∀ b,decFrom b l=some (l.foldl (fun a c=>a*10+kQ c) b):=by
 intro l
 induction l with
 | nil=>intro _ b;rfl
 | cons x r ih =>
  intro h b;rw [List.all_cons,Bool.and_eq_true] at h;rw [decFrom,rb h.1,List.foldl_cons];exact ih h.2 _
theorem yy {l:List UInt8}(h:l.all aX=true) (c:l≠[]):atoi l=some (ar l:Int):=by
 cases l with
 | nil=>exact absurd rfl c
 | cons x r =>
  have a:aX x=true:=by rw [List.all_cons,Bool.and_eq_true] at h;exact h.1
  have b:(x==45)=false:=by
   apply Bool.eq_false_iff.2;intro e;rw [beq_iff_eq] at e;subst e;exact absurd a (by decide)
  have d:(x==43)=false:=by
   apply Bool.eq_false_iff.2;intro e;rw [beq_iff_eq] at e;subst e;exact absurd a (by decide)
  unfold atoi;dsimp only;rw [b,d];simp only [Bool.false_eq_true,if_false];unfold decNat;rw [if_neg (by simp),ta h];rfl
def mB:List UInt8:=[48,49,50,51,52,53,54,55,56,57]
theorem rc (c:UInt8):mB.contains c=aX c:=by
 have h:∀ v:Fin 256,mB.contains (UInt8.ofNat v)=aX (UInt8.ofNat v):=by decide +kernel
 have:=h ⟨c.toNat,c.toNat_lt⟩;simpa using this
theorem fD {p:UInt8->Bool}:∀ {l:List UInt8},l.dropWhile p=[] ↔ l.all p=true:=by
 intro l
 induction l with
 | nil=>simp
 | cons x r ih =>
  by_cases h:p x=true
  ·rw [List.dropWhile_cons_of_pos h,ih,List.all_cons,h];simp
  rw [List.dropWhile_cons_of_neg h];simp [h]
theorem mC {p:UInt8->Bool}:∀ {l:List UInt8}{x:UInt8}{r:List UInt8},l.dropWhile p=x::r->p x=false:=by
 intro l
 induction l with
 | nil=>intro x r h;simp at h
 | cons y s ih =>
  intro x r h;by_cases hy:p y=true
  ·rw [List.dropWhile_cons_of_pos hy] at h;exact ih h
  rw [List.dropWhile_cons_of_neg hy] at h;injection h with h1 h2;subst h1;simpa using hy
theorem Bt {l:List UInt8}:trimS l mB=[] ↔ l.all aX=true:=by
 have a:(fun b=>mB.contains b)=aX:=funext rc;unfold trimS trimLeftS trimRightS;rw [a];rw [fD,List.all_reverse];constructor
 ·intro h
  cases hd:l.reverse.dropWhile aX with
  | nil=>have:=fD.1 hd;rw [List.all_reverse] at this;exact this
  | cons x r =>
   rw [hd,List.all_cons,Bool.and_eq_true] at h;rw [mC hd] at h;exact absurd h.1 (by simp)
 intro h;rw [fD.2 (by rw [List.all_reverse];exact h)];rfl
theorem gX (l:List UInt8):hasPrefix l [45]=cw l:=by
 unfold hasPrefix cw
 cases l with
 | nil=>rfl
 | cons x r =>
  by_cases h:x=45
  ·subst h;rfl
  have e:(45==x)=false:=by simp;exact fun e=>h e.symm
  simp only [List.isPrefixOf,e,Bool.false_and];split
  ·rename_i a;injection a with h2;exact absurd h2 h
  rfl
theorem jS (l:List UInt8):trimPrefix l [45]=bT l:=by
 unfold trimPrefix;rw [gX];unfold cw bT;split
 ·rename_i r
  rfl
 rfl
theorem vM (l:List UInt8):(bT l).length<=l.length:=by
 unfold bT;split <;> simp
theorem pC (k:Nat):10^k<=4294967296^k:=Nat.pow_le_pow_left (by omega) k
theorem pD {l:List UInt8}(h:l.all aX=true):ar l<4294967296^l.length:=Nat.lt_of_lt_of_le (eH h) (pC _)
theorem re {l:List UInt8}{p:UInt8->Bool}(h:l.all p=true) (k:Nat):(l.take k).all p=true:=by
 rw [List.all_eq_true] at h ⊢;exact fun x a=>h x (List.mem_of_mem_take a)
theorem rf {l:List UInt8}{p:UInt8->Bool}(h:l.all p=true) (k:Nat):(l.drop k).all p=true:=by
 rw [List.all_eq_true] at h ⊢;exact fun x a=>h x (List.mem_of_mem_drop a)
def nR (t pre rest:List UInt8):Prop:=t=pre++rest/\(pre=[]\/rest.length%9=0)
theorem nR.step {t pre rest:List UInt8}{n:Nat}(h:nR t pre rest) (b:0<rest.length) (c:(rest.length-1)%9+1=n) :
 n<=rest.length/\n<=9/\0<n/\nR t (pre++rest.take n) (rest.drop n)/\ar (pre++rest.take n)=ar pre*1000000000+ar (rest.take n):=by
 have a:n<=rest.length:=by have:=Nat.mod_le (rest.length-1) 9;omega
 refine ⟨a,by have:=Nat.mod_lt (rest.length-1) (show 0<9 by omega);omega,by omega,⟨?_,?_⟩,?_⟩
 ·rw [List.append_assoc,List.take_append_drop];exact h.1
 ·right;rw [List.length_drop];omega
 rw [gw,List.length_take,Nat.min_eq_left a];rcases h.2 with e | e
 ·subst e;simp [ar]
 have:n=9:=by omega
 subst this;rfl
theorem nR.start (t:List UInt8):nR t [] t:=⟨rfl,.inl rfl⟩
theorem nR.fin {t pre:List UInt8}(h:nR t pre []):pre=t:=by have:=h.1;rw [List.append_nil] at this;exact this.symm
theorem vN {l:List UInt8}(h:okZ l=true):bT l≠[]/\(bT l).all aX=true/\¬ ((bT l).head?=some 48/\(1<(bT l).length\/cw l=true)):=by
 unfold okZ at h;simp at h;refine ⟨h.1.1,by simpa using h.1.2,fun ⟨a,b⟩=>?_⟩;rcases h.2 with e | e
 ·exact e a
 rcases b with b | b
 ·omega
 rw [b] at e;exact absurd e.2 (by simp)
end Bn
