/- Part BQ7: lemmas and walks that the claim rests on. No claim is made here. -/
import Derived.Deep.RegionHeld3
import Derived.Deep.DrawnRows
import Derived.Laws.StructEq
import Derived.BigQuiet
import Derived.Deep.RegionLaw
import Derived.Test.YtndhgcfajlalhaaGreatDoorCards
import Derived.Test.YtndhgcfajlalhaaGreatDoorTie
import Derived.ProofKit
import Derived.WalkKit
import Derived.OpenShut
import Derived.Deep.DeepHandedRow
import Derived.Lib.LaidTab
import Derived.Shelf.Vars
import Derived.Deep.Slices
import Derived.SizedLaws
import Derived.Test.YtndhgcfajlalhaaGreatDoorBQ6
set_option linter.unusedVariables false
set_option maxHeartbeats 8000000
set_option maxRecDepth 100000
/- Walks: fields that differ. -/
namespace Go.Proofs.YtndhgcfajlalhaaGreatDoor
open Go Go.RowKit Bn
attribute [local go_sem ↓] Go.wp_at_zero Go.wp_at_succ
theorem nF (w:World) (A n c l) (p:Wd w A n c l) (A' a c' l') (s:Wd w A' a c' l') (f:l≠l') (N:n<=1000000000) (G:a<=1000000000) :
 Calls Tryz.prog 117 #[.slice A n c,.slice A' a c'] w (ax w (.bool false)):=by
 by_cases hnn:a=n
 ·subst hnn
  obtain ⟨j,H,k⟩:=FD (by rw [<- p.2.1,<- s.2.1]) f;rw [<- p.2.1] at H;have F:=Qh p;have D:=Qh s;have z:=Qh k;clear p s f k;go_in;go_wp2_with fail;go_loopw [5] (fun t wr=>∃ (i q:Nat),i<=j/\t=.int .i64 (i:Nat)/\wr=w.drewN q) (fun t _=>a-(intOf t).toNat)
  case atStart=>exact ⟨0,0,Nat.zero_le _,rfl,rfl⟩
  case round =>
   obtain ⟨i,q,M,rfl,rfl⟩:=hrel;have d:i<a:=by omega
   obtain ⟨g,o,rfl,r⟩:=F.out.at_ (by omega);obtain ⟨J,L,rfl,m⟩:=D.out.at_ (by omega);have E:=r i d;have B:=m i d;have I:(0:Int)<=(i:Int):=by omega
   have v:(i:Int)<(a:Int):=by omega
   have b:=Qh (show i=j->wd l i≠wd l' i by rintro rfl;exact z.out);generalize wd l i=x at E b;generalize wd l' i=y at B b;clear r m;by_cases hxy:x=y
   ·subst hxy
    have C:i<j:=by
     rcases Nat.lt_or_ge i j with h | h
     ·exact h
     exact absurd rfl (b.out (by omega))
    go_wp2_with fail;go_quiet (fail);go_wp2;go_roundw
    case rel=>exact ⟨i+1,_,by omega,by go_num,rfl⟩
    case measure=>simp [intOf];omega
   have u:¬ (x:Int)=(y:Int):=by omega
   go_wp2_with fail;go_quiet (fail);go_wp2;go_ret;exact bZ rfl (by repeat (first | exact Below.refl _ _ | refine af ?_ _))
 have O:((n:Int)==(a:Int))=false:=by simp;omega
 have K:¬ (n:Int)=(a:Int):=by omega
 clear p s;go_in;go_wp2;go_ret;exact bZ rfl (ae w)
theorem xH (w:World) (b:Bool) (A:Option Addr) (n c:Nat) (D:Option Addr) (m e:Nat) (r:RD) (k:Nat) (h:QD w b A n c D m e r k) (d:Bool) (s:Option Addr) (j o:Nat) (t:Option Addr) (u p:Nat) (y:RD) (q:Nat) (C:QD w d s j o t u p y q) (a:b≠d) (H:k<=1000000) (B:q<=1000000) :
 Calls Tryz.prog 81 #[.agg #[.bool b,.slice A n c,.slice D m e],.agg #[.bool d,.slice s j o,.slice t u p]] w (ax w (.bool false)):=by
 obtain ⟨F,G,hd,z,x⟩:=h;obtain ⟨i,g,f,l,v⟩:=C;have I:(b==d)=false:=by simpa using a
 have E:¬ b=d:=a;clear G hd g f F i;go_in;go_wp2;go_ret;exact bZ rfl (((ae w).alloc Qr _).alloc (by simp) _)
theorem xI (w:World) (b:Bool) (A:Option Addr) (n c:Nat) (D:Option Addr) (m e:Nat) (r:RD) (k:Nat) (h:QD w b A n c D m e r k) (t:Bool) (o:Option Addr) (i j:Nat) (p:Option Addr) (q l:Nat) (s:RD) (z:Nat) (J:QD w t o i j p q l s z) (u:b=t) (d:r.num≠s.num) (N:k<=1000000) (I:z<=1000000) :
 Calls Tryz.prog 81 #[.agg #[.bool b,.slice A n c,.slice D m e],.agg #[.bool t,.slice o i j,.slice p q l]] w (ax w (.bool false)):=by
 obtain ⟨L,C,hd,G,F⟩:=h;obtain ⟨v,g,f,x,B⟩:=J;subst u;have P:(b==b)=true:=by simp
 have y:=Qh (And.intro C g);have O:=Qh (And.intro hd f);have K:=Qh d;clear C g hd f d L v;go_in;go_wp2_with fail;refine (nF _ A n c r.num ?_ o i j s.num ?_ ?_ ?_ ?_).mono ?_;(exact y.out.1.keep (((Kp.refl _).alloc _).alloc _));(exact y.out.2.keep (((Kp.refl _).alloc _).alloc _));(exact K.out);(omega);(omega);rintro e a ⟨rfl,hb⟩;have q1:Below w.heap.size w a:=(((Below.refl _ _).alloc Qr _).alloc (by simp) _).trans (hb.mono (by simp <;> omega));have x0:Blk a w.heap.size 54 #[.bool b,.slice A n c,.slice D m e]:=((ak w _ _ rfl).alloc _).below hb (by simp <;> omega);have M:Blk a (w.heap.size+1) 54 #[.bool b,.slice o i j,.slice p q l]:=(ak _ _ _ (by simp)).below hb (by simp);have H:a.cell? ⟨w.heap.size,2,none⟩=some (.slice D m e):=x0.cell 2;have E:a.cell? ⟨w.heap.size+1,2,none⟩=some (.slice p q l):=M.cell 2;clear hb;go_wp2;go_ret;exact ⟨rfl,q1⟩
theorem xJ (w:World) (b:Bool) (A:Option Addr) (n c:Nat) (D:Option Addr) (m e:Nat) (r:RD) (k:Nat) (h:QD w b A n c D m e r k) (t:Bool) (s:Option Addr) (o q:Nat) (i:Option Addr) (j g:Nat) (p:RD) (C:Nat) (M:QD w t s o q i j g p C) (u:b=t) (x:r.num=p.num) (f:r.den≠p.den) (Q:k<=1000000) (L:C<=1000000) :
 Calls Tryz.prog 81 #[.agg #[.bool b,.slice A n c,.slice D m e],.agg #[.bool t,.slice s o q,.slice i j g]] w (ax w (.bool false)):=by
 obtain ⟨O,G,hd,J,I⟩:=h;obtain ⟨y,a,l,z,F⟩:=M;rw [<- x] at a;subst u;have R:(b==b)=true:=by simp
 have B:=Qh (And.intro G a);have E:=Qh (And.intro hd l);have N:=Qh f;clear G a hd l f O y;go_in;go_wp2_with fail;refine (pM _ A n c r.num ?_ s o q ?_ ?_).mono ?_;(exact B.out.1.keep (((Kp.refl _).alloc _).alloc _));(exact B.out.2.keep (((Kp.refl _).alloc _).alloc _));(omega);rintro e d ⟨rfl,hb⟩;have q1:Below w.heap.size w d:=(((Below.refl _ _).alloc Qr _).alloc (by simp) _).trans (hb.mono (by simp <;> omega));have x0:Blk d w.heap.size 54 #[.bool b,.slice A n c,.slice D m e]:=((ak w _ _ rfl).alloc _).below hb (by simp <;> omega);have P:Blk d (w.heap.size+1) 54 #[.bool b,.slice s o q,.slice i j g]:=(ak _ _ _ (by simp)).below hb (by simp);have K:d.cell? ⟨w.heap.size,2,none⟩=some (.slice D m e):=x0.cell 2;have H:d.cell? ⟨w.heap.size+1,2,none⟩=some (.slice i j g):=P.cell 2;clear hb;go_wp2_with fail;refine (nF _ D m e r.den ?_ i j g p.den ?_ ?_ ?_ ?_).mono ?_;(exact E.out.1.belw q1);(exact E.out.2.belw q1);(exact N.out);(omega);(omega);rintro e S ⟨rfl,v⟩;go_wp2;go_ret;exact ⟨rfl,q1.trans (v.mono q1.size)⟩
theorem AK (w:World) (b:Bool) (A:Option Addr) (n c:Nat) (D:Option Addr) (m e:Nat) (t:Bool) (p:Option Addr) (l o:Nat) (f:Option Addr) (g d:Nat) (r:RD) (k F:Nat) (h:QD w b A n c D m e r k) (E:QD w t p l o f g d r F) (I:k<=1000000) :
 Calls Tryz.prog 81 #[.agg #[.bool b,.slice A n c,.slice D m e],.agg #[.bool t,.slice p l o,.slice f g d]] w (ax w (.bool true)):=by
 obtain ⟨G,x,hd,B,z⟩:=h;obtain ⟨s,j,i,_,_⟩:=E;subst G s;have J:(r.neg==r.neg)=true:=by simp
 have u:=Qh (And.intro x j);have v:=Qh (And.intro hd i);clear x j hd i;go_in;go_wp2_with fail;refine (pM _ A n c r.num ?_ p l o ?_ ?_).mono ?_;(exact u.out.1.keep (((Kp.refl _).alloc _).alloc _));(exact u.out.2.keep (((Kp.refl _).alloc _).alloc _));(omega);rintro e a ⟨rfl,hb⟩;have q1:Below w.heap.size w a:=(((Below.refl _ _).alloc Qr _).alloc (by simp) _).trans (hb.mono (by simp <;> omega));have x0:Blk a w.heap.size 54 #[.bool r.neg,.slice A n c,.slice D m e]:=((ak w _ _ rfl).alloc _).below hb (by simp <;> omega);have H:Blk a (w.heap.size+1) 54 #[.bool r.neg,.slice p l o,.slice f g d]:=(ak _ _ _ (by simp)).below hb (by simp);have C:a.cell? ⟨w.heap.size,2,none⟩=some (.slice D m e):=x0.cell 2;have y:a.cell? ⟨w.heap.size+1,2,none⟩=some (.slice f g d):=H.cell 2;clear hb;go_wp2_with fail;refine (pM _ D m e r.den ?_ f g d ?_ ?_).mono ?_;(exact v.out.1.belw q1);(exact v.out.2.belw q1);(omega);rintro e K ⟨rfl,q⟩;go_wp2;go_ret;exact ⟨rfl,q1.trans (q.mono q1.size)⟩
theorem vK (w:World) (b:Bool) (A:Option Addr) (n c:Nat) (D:Option Addr) (m e:Nat) (d:Bool) (o:Option Addr) (g i:Nat) (p:Option Addr) (q j:Nat) (r a:RD) (k l:Nat) (h:QD w b A n c D m e r k) (s:QD w d o g i p q j a l) (t:k<=1000000) (f:l<=1000000) (v:Bool) (y:v=true ↔ r=a) :
 Calls Tryz.prog 81 #[.agg #[.bool b,.slice A n c,.slice D m e],.agg #[.bool d,.slice o g i,.slice p q j]] w (ax w (.bool v)):=by
 by_cases e1:r=a
 ·subst e1
  rw [y.2 rfl];exact AK w b A n c D m e d o g i p q j r k l h s t
 have u:v=false:=by cases v;rfl;exact absurd (y.1 rfl) e1
 subst u;by_cases eb:b=d
 ·by_cases en:r.num=a.num
  ·refine xJ w b A n c D m e r k h d o g i p q j a l s eb en (fun ed=>e1 ?_) t f
   have x:r.neg=a.neg:=by rw [h.1,s.1,eb]
   obtain ⟨F,G,C⟩:=r;obtain ⟨z,E,B⟩:=a;simp only at x en ed;rw [x,en,ed]
  exact xI w b A n c D m e r k h d o g i p q j a l s eb en t f
 exact xH w b A n c D m e r k h d o g i p q j a l s eb t f
def AL (w:World) (g o:Nat) (s:Value) (b1:Bool) (A1:Option Addr) (n1 c1:Nat) (D1:Option Addr) (m1 e1:Nat) (b2:Bool) (A2:Option Addr) (n2 c2:Nat) (D2:Option Addr) (m2 e2:Nat):Prop :=
  w.cell? ⟨g,o,none⟩=some s/\w.cell? ⟨g,o+1,none⟩=some (.bool b1)/\w.cell? ⟨g,o+2,none⟩=some (.slice A1 n1 c1)/\w.cell? ⟨g,o+3,none⟩=some (.slice D1 m1 e1)/\w.cell? ⟨g,o+4,none⟩=some (.bool b2)/\w.cell? ⟨g,o+5,none⟩=some (.slice A2 n2 c2)/\w.cell? ⟨g,o+6,none⟩=some (.slice D2 m2 e2)
section
variable {w w':World}{g o:Nat}{s:Value}{b1 b2:Bool}{A1 D1 A2 D2:Option Addr}{n1 c1 m1 e1 n2 c2 m2 e2:Nat}
theorem AN (h:w.cell? ⟨g,o,none⟩=some s) (d:w.cell? ⟨g,o+1,none⟩=some (.bool b1)) (b:w.cell? ⟨g,o+1+1,none⟩=some (.slice A1 n1 c1)) (i:w.cell? ⟨g,o+1+2,none⟩=some (.slice D1 m1 e1)) (c:w.cell? ⟨g,o+4,none⟩=some (.bool b2)) (f:w.cell? ⟨g,o+4+1,none⟩=some (.slice A2 n2 c2)) (a:w.cell? ⟨g,o+4+2,none⟩=some (.slice D2 m2 e2)):AL w g o s b1 A1 n1 c1 D1 m1 e1 b2 A2 n2 c2 D2 m2 e2:=⟨h,d,b,i,c,f,a⟩
theorem lG (h:AL w g o s b1 A1 n1 c1 D1 m1 e1 b2 A2 n2 c2 D2 m2 e2) (hb:Below w.heap.size w w') :
 w'.cell? ⟨g,o,none⟩=some s/\w'.cell? ⟨g,o+1,none⟩=some (.bool b1)/\w'.cell? ⟨g,o+2,none⟩=some (.slice A1 n1 c1)/\w'.cell? ⟨g,o+3,none⟩=some (.slice D1 m1 e1)/\w'.cell? ⟨g,o+4,none⟩=some (.bool b2)/\w'.cell? ⟨g,o+5,none⟩=some (.slice A2 n2 c2)/\w'.cell? ⟨g,o+6,none⟩=some (.slice D2 m2 e2) :=
 ⟨am h.1 hb,am h.2.1 hb,am h.2.2.1 hb,am h.2.2.2.1 hb,am h.2.2.2.2.1 hb,am h.2.2.2.2.2.1 hb,am h.2.2.2.2.2.2 hb⟩
end
theorem qN (p:Prop):∃ v:Bool,v=true ↔ p:=by
 by_cases h:p
 ·exact ⟨true,by simp [h]⟩
 exact ⟨false,by simp [h]⟩
theorem FE:Tryz.prog.eqGuardType Tryz.prog.depth 81=false:=by kernel_rfl
theorem FF:Tryz.prog.stoodInHeld 81=false:=by kernel_rfl
theorem FG:Tryz.prog.eqGuardType Tryz.prog.depth 86=false:=by kernel_rfl
theorem FH:Tryz.prog.stoodInHeld 86=false:=by kernel_rfl
theorem js {α:Type}{l m:List α}{i:Nat}{a:α}(h:l.take i=m.take i) (c:l[i]?=some a) (b:m[i]?=some a):l.take (i+1)=m.take (i+1):=by rw [List.take_add_one,List.take_add_one,h,c,b]
theorem AO (w:World) (A:Option Addr) (n c:Nat) (a:aj) (h:SlS (cY 1000000) 7 w A n c a.pts) (A':Option Addr) (n' M:Nat) (b:aj) (h':SlS (cY 1000000) 7 w A' n' M b.pts) (hn:n<=1000) (v:Bool) (hv:v=true ↔ a=b) :
 Calls Tryz.prog 45 #[.agg #[aa a.name,.slice A n c],.agg #[aa b.name,.slice A' n' M]] w (ax w (.bool v)):=by
 have H:=Qh (And.intro h h');have HV:=Qh hv;clear h h' hv;by_cases en:a.name=b.name
 ·by_cases el:n=n'
  ·subst el
   have hs:(a.name==b.name)=true:=beq_iff_eq.2 en;have HN:=Qh en;have d8:=H.out.1.2.1;have ds:=H.out.2.2.1;have c5:=Qh H.out.1.1;have b8:=Qh H.out.2.1;clear en;go_in;go_wp2_with fail;go_loopw [5] (fun iv wr=>∃ i:Nat,iv=.int .i64 (i:Nat)/\i<=n/\Hid (a.pts.take i=b.pts.take i)/\Blk wr w.heap.size 51 #[aa a.name,.slice A n c]/\Blk wr (w.heap.size+1) 51 #[aa b.name,.slice A' n M]/\Below w.heap.size w wr) (fun iv _=>n-(intOf iv).toNat)
   case atStart=>exact ⟨0,rfl,Nat.zero_le _,Qh rfl,(ak w _ _ rfl).alloc _,ak _ _ _ (by simp),((ae w).alloc Qr _).alloc (by simp) _⟩
   case round =>
    obtain ⟨i,rfl,hi,HI,xa,xb,L⟩:=hrel;rename World=>wa;have d9:w.heap.size<wa.heap.size:=xa.lt;have eb:w.heap.size+1<wa.heap.size:=xb.lt;rcases Nat.lt_or_ge i n with a7 | bv
    ·have b9:((i:Int)<(n:Int))=True:=by simp;omega
     obtain ⟨g,o,x,r,hg,_,bf,hX⟩:=H.out.1.at_ a7;subst r;obtain ⟨F,E,y,r,ea,_,a3,hY⟩:=H.out.2.at_ a7;subst r;have a6:=xa.cell 1;obtain ⟨d0,⟨Q,U,Z,c1,Y,m1,r,d1,d2,d3,bw⟩,⟨S,A2,n2,c2,D2,m2,t,d4,d5,d6,a4⟩,_⟩:=hX;obtain ⟨f0,⟨T,W,n3,c3,D3,m3,O,f1,f2,f3,br⟩,⟨b4,A4,n4,c4,V,X,e4,f4,f5,f6,bx⟩,_⟩:=hY;have dq:=Qh (AN d0 d1 d2 d3 d4 d5 d6);have c9:=Qh (AN f0 f1 f2 f3 f4 f5 f6);have HQ:=Qh (And.intro bw (And.intro a4 (And.intro br bx)));have s:=Qh (And.intro bf a3);clear d0 d1 d2 d3 d4 d5 d6 f0 f1 f2 f3 f4 f5 f6 bw a4 br bx bf a3;go_wp2_with fail;clear a6;have dv:((i:Int)<(n:Int)):=by omega
     refine oh (B:=w.heap.size) (fr:=fun j=>⟨List.toArray (.agg #[aa a.name,.slice (some ⟨g,o,none⟩) n c] :: .agg #[aa b.name,.slice (some ⟨F,E,none⟩) n M] :: .pointer (some ⟨w.heap.size,0,none⟩) :: .pointer (some ⟨w.heap.size+1,0,none⟩)::u4 :: .int .i64 (i:Nat)::j 10::j 11 :: .pointer (some ⟨w.heap.size,0,none⟩)::aa a.name :: .pointer (some ⟨w.heap.size+1,0,none⟩)::aa b.name :: .bool false :: .bool false :: .pointer (some ⟨w.heap.size,1,none⟩) :: .slice (some ⟨g,o,none⟩) n c :: .int .i64 (n:Nat) :: .pointer (some ⟨w.heap.size+1,1,none⟩) :: .slice (some ⟨F,E,none⟩) n M :: .int .i64 (n:Nat) :: .bool false :: .bool false :: .int .i64 (i:Nat) :: .pointer (some ⟨w.heap.size,1,none⟩) :: .slice (some ⟨g,o,none⟩) n c :: .int .i64 (n:Nat) :: .bool true::u27::u28::j 0::j 1::j 2::j 3::j 4::j 5::j 6::j 7::j 8::j 9::u39::u40::u41::u42::u43::u44::u45::u46::u47::u48::u49::u50::u51::u52::u53::u54::u55::u56::u57::u58::u59::[]),[]⟩) (R:=fun ri=>List.getD ((PEq (.pointer (some ⟨w.heap.size,1,none⟩)))::(PEq (.slice (some ⟨g,o,none⟩) n c))::(PEq (.int .i64 (i:Nat)))::(PEq (.pointer (some ⟨g,o+i*7,none⟩)))::(PEq (.agg #[aa x.name,.bool Q,.slice U Z c1,.slice Y m1 r,.bool S,.slice A2 n2 c2,.slice D2 m2 t]))::(PEq (.pointer (some ⟨w.heap.size+1,1,none⟩)))::(PEq (.slice (some ⟨F,E,none⟩) n M))::(PEq (.int .i64 (i:Nat)))::(PEq (.pointer (some ⟨F,E+i*7,none⟩)))::(PEq (.agg #[aa y.name,.bool T,.slice W n3 c3,.slice D3 m3 O,.bool b4,.slice A4 n4 c4,.slice V X e4]))::ff::ff::ff::ff::[]) ri (fun _ _=>True)) (es:=[⟨10,12,56,#[.string ⟨#[]⟩,.bool false,.slice none 0 0,.slice none 0 0,.bool false,.slice none 0 0,.slice none 0 0],fun I _=>I=#[aa x.name,.bool Q,.slice U Z c1,.slice Y m1 r,.bool S,.slice A2 n2 c2,.slice D2 m2 t]⟩,⟨11,13,56,#[.string ⟨#[]⟩,.bool false,.slice none 0 0,.slice none 0 0,.bool false,.slice none 0 0,.slice none 0 0],fun I _=>I=#[aa y.name,.bool T,.slice W n3 c3,.slice D3 m3 O,.bool b4,.slice A4 n4 c4,.slice V X e4]⟩]) (ow:=[⟨w.heap.size,14,0,51,#[aa a.name,.slice (some ⟨g,o,none⟩) n c],fun _ _=>True⟩,⟨w.heap.size+1,14,0,51,#[aa b.name,.slice (some ⟨F,E,none⟩) n M],fun _ _=>True⟩]) (x0:=(upd (upd (upd (upd (upd (upd (upd (upd (upd (upd (upd (upd (fun _=>undef) 0 u29) 1 u30) 2 u31) 3 u32) 4 u33) 5 u34) 6 u35) 7 u36) 8 u37) 9 u38) 10 u6) 11 u7)) (by kernel_rfl)
      (aq ⟨fun _ _=>rfl,fun _ _=>rfl,fun _ _=>rfl,fun _ _=>rfl,fun _ _=>rfl,fun _ _=>rfl,fun _ _=>rfl,fun _ _=>rfl,fun _ _=>rfl,fun _ _=>rfl,fun _ _=>rfl,fun _ _=>rfl,fun _ _=>rfl,fun _ _=>rfl,trivial⟩) (aq (be _ 0 (by kernel_rfl))) (vJ.get _ ⟨bEq _,bEq _,bEq _,bEq _,bEq _,bEq _,bEq _,bEq _,bEq _,bEq _,CE,CE,CE,CE,trivial⟩)
      (fmc ⟨fun _ _ _ h _=>h,fmc ⟨fun _ _ _ h _=>h,fun _ h=>nomatch h⟩⟩) (fmc ⟨fun _ _ _ _ _=>True.intro,fmc ⟨fun _ _ _ _ _=>True.intro,fun _ h=>nomatch h⟩⟩) (fmc ⟨⟨by simp,by simp⟩,fmc ⟨⟨by simp,by simp⟩,fun _ h=>nomatch h⟩⟩) L.size
      (fmc ⟨⟨xa,Qr⟩,fmc ⟨⟨xb,by show w.heap.size<=w.heap.size+1;omega⟩,fun _ h=>nomatch h⟩⟩) (AJ (by simp <;> omega))
      (aq ⟨?_,?_,?_,?_,?_,?_,?_,?_,?_,?_,?_,?_,?_,?_,trivial⟩) ?_
     ·exact .inl ⟨by simp,by simp,fun j f z p hd K m=>by
       (try dsimp only);go_simp;have l:=m.out (.pointer (some ⟨w.heap.size,1,none⟩)) _ rfl (ae _)
       exact l⟩
     ·exact .inl ⟨by simp,by simp,fun j f z p hd K m=>by
       have a0:j 0=.pointer (some ⟨w.heap.size,1,none⟩):=hd ⟨0,.data⟩ (by simp) rfl;have y:Blk f w.heap.size 51 #[aa a.name,.slice (some ⟨g,o,none⟩) n c]:=p _ (List.Mem.head _) (by simp [Region.binds]);have aS:f.cell? ⟨w.heap.size,1,none⟩=some (.slice (some ⟨g,o,none⟩) n c):=y.cell 1;(try dsimp only);(try simp only [a0]);go_simp;have l:=m.out (.slice (some ⟨g,o,none⟩) n c) _ rfl (ae _);simp only [a0] at l
       exact l⟩
     ·exact .inl ⟨by simp,by simp,fun j f z p hd K m=>by
       (try dsimp only);go_simp;have l:=m.out (.int .i64 (i:Nat)) _ rfl (ae _)
       exact l⟩
     ·exact .inl ⟨by simp,by simp,fun j f z p hd K m=>by
       have bz:j 1=.slice (some ⟨g,o,none⟩) n c:=hd ⟨1,.data⟩ (by simp) rfl;have aT:j 2=.int .i64 (i:Nat):=hd ⟨2,.data⟩ (by simp) rfl;(try dsimp only);(try simp only [bz,aT]);go_simp;have l:=m.out (.pointer (some ⟨g,o+i*7,none⟩)) _ rfl (ae _);simp only [bz,aT] at l
       exact l⟩
     ·exact .inl ⟨by simp,by simp,fun j f z p hd K m=>by
       have bn:j 3=.pointer (some ⟨g,o+i*7,none⟩):=hd ⟨3,.data⟩ (by simp) rfl;obtain ⟨k0,k1,k2,k3,k4,k5,k6⟩:=lG dq.out (L.trans z);(try dsimp only);(try simp only [bn]);go_simp;have l:=m.out (.agg #[aa x.name,.bool Q,.slice U Z c1,.slice Y m1 r,.bool S,.slice A2 n2 c2,.slice D2 m2 t]) _ rfl (ae _);simp only [bn] at l
       exact l⟩
     ·exact .inl ⟨by simp,by simp,fun j f z p hd K m=>by
       (try dsimp only);go_simp;have l:=m.out (.pointer (some ⟨w.heap.size+1,1,none⟩)) _ rfl (ae _)
       exact l⟩
     ·exact .inl ⟨by simp,by simp,fun j f z p hd K m=>by
       have bu:j 5=.pointer (some ⟨w.heap.size+1,1,none⟩):=hd ⟨5,.data⟩ (by simp) rfl;have y:Blk f (w.heap.size+1) 51 #[aa b.name,.slice (some ⟨F,E,none⟩) n M]:=p _ (List.Mem.tail _ (List.Mem.head _)) (by simp [Region.binds]);have aS:f.cell? ⟨w.heap.size+1,1,none⟩=some (.slice (some ⟨F,E,none⟩) n M):=y.cell 1;(try dsimp only);(try simp only [bu]);go_simp;have l:=m.out (.slice (some ⟨F,E,none⟩) n M) _ rfl (ae _);simp only [bu] at l
       exact l⟩
     ·exact .inl ⟨by simp,by simp,fun j f z p hd K m=>by
       (try dsimp only);go_simp;have l:=m.out (.int .i64 (i:Nat)) _ rfl (ae _)
       exact l⟩
     ·exact .inl ⟨by simp,by simp,fun j f z p hd K m=>by
       have a5:j 6=.slice (some ⟨F,E,none⟩) n M:=hd ⟨6,.data⟩ (by simp) rfl;have b0:j 7=.int .i64 (i:Nat):=hd ⟨7,.data⟩ (by simp) rfl;(try dsimp only);(try simp only [a5,b0]);go_simp;have l:=m.out (.pointer (some ⟨F,E+i*7,none⟩)) _ rfl (ae _);simp only [a5,b0] at l
       exact l⟩
     ·exact .inl ⟨by simp,by simp,fun j f z p hd K m=>by
       have a9:j 8=.pointer (some ⟨F,E+i*7,none⟩):=hd ⟨8,.data⟩ (by simp) rfl;obtain ⟨k0,k1,k2,k3,k4,k5,k6⟩:=lG c9.out (L.trans z);(try dsimp only);(try simp only [a9]);go_simp;have l:=m.out (.agg #[aa y.name,.bool T,.slice W n3 c3,.slice D3 m3 O,.bool b4,.slice A4 n4 c4,.slice V X e4]) _ rfl (ae _);simp only [a9] at l
       exact l⟩
     ·exact .inr (.inl ⟨⟨10,12,56,#[.string ⟨#[]⟩,.bool false,.slice none 0 0,.slice none 0 0,.bool false,.slice none 0 0,.slice none 0 0],fun I _=>I=#[aa x.name,.bool Q,.slice U Z c1,.slice Y m1 r,.bool S,.slice A2 n2 c2,.slice D2 m2 t]⟩,by simp,rfl,by simp,by simp,by simp,fun _ _=>True.intro,fun j f K m=>by
       (try dsimp only);go_simp
       exact m.out⟩)
     ·exact .inr (.inl ⟨⟨11,13,56,#[.string ⟨#[]⟩,.bool false,.slice none 0 0,.slice none 0 0,.bool false,.slice none 0 0,.slice none 0 0],fun I _=>I=#[aa y.name,.bool T,.slice W n3 c3,.slice D3 m3 O,.bool b4,.slice A4 n4 c4,.slice V X e4]⟩,by simp,rfl,by simp,by simp,by simp,fun _ _=>True.intro,fun j f K m=>by
       (try dsimp only);go_simp
       exact m.out⟩)
     ·exact .inr (.inr (.inl ⟨⟨10,12,56,#[.string ⟨#[]⟩,.bool false,.slice none 0 0,.slice none 0 0,.bool false,.slice none 0 0,.slice none 0 0],fun I _=>I=#[aa x.name,.bool Q,.slice U Z c1,.slice Y m1 r,.bool S,.slice A2 n2 c2,.slice D2 m2 t]⟩,by simp,rfl,by simp,by simp,by simp,by simp,True.intro,fun _ _=>True.intro,⟨⟨10,.data⟩,by simp,rfl,rfl⟩,fun j f k hx d hd=>by
       have bl:j 4=.agg #[aa x.name,.bool Q,.slice U Z c1,.slice Y m1 r,.bool S,.slice A2 n2 c2,.slice D2 m2 t]:=hd ⟨4,.data⟩ (by simp) rfl;dsimp only at hx d;refine ⟨[aa x.name,.bool Q,.slice U Z c1,.slice Y m1 r,.bool S,.slice A2 n2 c2,.slice D2 m2 t],fun w' z=>rfl,fun K m=>?_⟩;have cy:f.cell? ⟨k,0,none⟩=some (.string ⟨#[]⟩):=d.cell 0;have aS:f.cell? ⟨k,1,none⟩=some (.bool false):=d.cell 1;have cn:f.cell? ⟨k,2,none⟩=some (.slice none 0 0):=d.cell 2;have cv:f.cell? ⟨k,3,none⟩=some (.slice none 0 0):=d.cell 3;have ck:f.cell? ⟨k,4,none⟩=some (.bool false):=d.cell 4;have di:f.cell? ⟨k,5,none⟩=some (.slice none 0 0):=d.cell 5;have cs:f.cell? ⟨k,6,none⟩=some (.slice none 0 0):=d.cell 6;have dn:f.frozen? ⟨k,0,none⟩=false:=d.frozen 0;have dr:f.frozen? ⟨k,1,none⟩=false:=d.frozen 1;have cr:f.frozen? ⟨k,2,none⟩=false:=d.frozen 2;have ca:f.frozen? ⟨k,3,none⟩=false:=d.frozen 3;have cm:f.frozen? ⟨k,4,none⟩=false:=d.frozen 4;have cc:f.frozen? ⟨k,5,none⟩=false:=d.frozen 5;have db:f.frozen? ⟨k,6,none⟩=false:=d.frozen 6;(try dsimp only);simp only [hx,bl];go_simp;have l:=m.out undef;simp only [hx,bl] at l
       exact l⟩))
     ·exact .inr (.inr (.inl ⟨⟨11,13,56,#[.string ⟨#[]⟩,.bool false,.slice none 0 0,.slice none 0 0,.bool false,.slice none 0 0,.slice none 0 0],fun I _=>I=#[aa y.name,.bool T,.slice W n3 c3,.slice D3 m3 O,.bool b4,.slice A4 n4 c4,.slice V X e4]⟩,by simp,rfl,by simp,by simp,by simp,by simp,True.intro,fun _ _=>True.intro,⟨⟨11,.data⟩,by simp,rfl,rfl⟩,fun j f k hx d hd=>by
       have bY:j 9=.agg #[aa y.name,.bool T,.slice W n3 c3,.slice D3 m3 O,.bool b4,.slice A4 n4 c4,.slice V X e4]:=hd ⟨9,.data⟩ (by simp) rfl;dsimp only at hx d;refine ⟨[aa y.name,.bool T,.slice W n3 c3,.slice D3 m3 O,.bool b4,.slice A4 n4 c4,.slice V X e4],fun w' z=>rfl,fun K m=>?_⟩;have cy:f.cell? ⟨k,0,none⟩=some (.string ⟨#[]⟩):=d.cell 0;have aS:f.cell? ⟨k,1,none⟩=some (.bool false):=d.cell 1;have cn:f.cell? ⟨k,2,none⟩=some (.slice none 0 0):=d.cell 2;have cv:f.cell? ⟨k,3,none⟩=some (.slice none 0 0):=d.cell 3;have ck:f.cell? ⟨k,4,none⟩=some (.bool false):=d.cell 4;have di:f.cell? ⟨k,5,none⟩=some (.slice none 0 0):=d.cell 5;have cs:f.cell? ⟨k,6,none⟩=some (.slice none 0 0):=d.cell 6;have dn:f.frozen? ⟨k,0,none⟩=false:=d.frozen 0;have dr:f.frozen? ⟨k,1,none⟩=false:=d.frozen 1;have cr:f.frozen? ⟨k,2,none⟩=false:=d.frozen 2;have ca:f.frozen? ⟨k,3,none⟩=false:=d.frozen 3;have cm:f.frozen? ⟨k,4,none⟩=false:=d.frozen 4;have cc:f.frozen? ⟨k,5,none⟩=false:=d.frozen 5;have db:f.frozen? ⟨k,6,none⟩=false:=d.frozen 6;(try dsimp only);simp only [hx,bY];go_simp;have l:=m.out undef;simp only [hx,bY] at l
       exact l⟩))
     intro y7 w7 kq p lw ab _ ad cL;obtain ⟨_,za,ez,_⟩:=ab _ (List.Mem.head _);obtain rfl:=ez (by simp);obtain ⟨_,zb,ez,_⟩:=ab _ (List.Mem.tail _ (List.Mem.head _));obtain rfl:=ez (by simp);obtain ⟨g6,_,aC,b7,P,rfl⟩:=ad _ (List.Mem.head _);obtain ⟨k,_,an,b6,J,rfl⟩:=ad _ (List.Mem.tail _ (List.Mem.head _));dsimp only at za zb aC b7 P an b6 J;clear ab ad cL ez;have C:=L.trans kq;have cb:g6<w7.heap.size:=P.lt;have c0:k<w7.heap.size:=J.lt;(try dsimp only);simp only [aC,an];clear aC an;obtain ⟨k0,k1,k2,k3,k4,k5,k6⟩:=P.c7;obtain ⟨l0,l1,l2,l3,l4,l5,l6⟩:=J.c7;by_cases u:x.name=y.name
     ·have cu:(x.name==y.name)=true:=beq_iff_eq.2 u
      have ch:=Qh u;clear u;obtain ⟨v1,a8⟩:=qN (x.x=y.x);obtain ⟨v2,bk⟩:=qN (x.y=y.y);have ao:=Qh a8;have al:=Qh bk;clear a8 bk;go_wp2_with fail;refine (vK w7 Q U Z c1 Y m1 r T W n3 c3 D3 m3 O x.x y.x 1000000 1000000 (HQ.out.1.belw C) (HQ.out.2.2.1.belw C) (by decide) (by decide) v1 ao.out).mono ?_;rintro e' w8 ⟨rfl,D⟩;have G:=C.trans (D.mono C.size);have bg:=za.below D za.lt;have b5:=zb.below D zb.lt;have y6:=P.below D P.lt;have bd:=J.below D J.lt;clear k0 k1 k2 k3 k4 k5 k6 l0 l1 l2 l3 l4 l5 l6;cases v1
      ·have q:v=false:=by
        cases v
        ·rfl
        exfalso;have:=HV.out.1 rfl;subst this;have N:=s.out.1.symm.trans s.out.2;injection N with N;subst N;exact absurd (ao.out.2 rfl) (by decide)
       subst q;go_wp2;go_ret;exact ⟨rfl,G⟩
      have cb:g6<w8.heap.size:=y6.lt;have c0:k<w8.heap.size:=bd.lt;obtain ⟨k0,k1,k2,k3,k4,k5,k6⟩:=y6.c7;obtain ⟨l0,l1,l2,l3,l4,l5,l6⟩:=bd.c7;go_wp2_with fail;refine (vK w8 S A2 n2 c2 D2 m2 t b4 A4 n4 c4 V X e4 x.y y.y 1000000 1000000 (HQ.out.2.1.belw G) (HQ.out.2.2.2.belw G) (by decide) (by decide) v2 al.out).mono ?_;rintro e' w9 ⟨rfl,ac⟩;have bs:=G.trans (ac.mono G.size);have cp:=bg.below ac bg.lt;have c6:=b5.below ac b5.lt;clear k0 k1 k2 k3 k4 k5 k6 l0 l1 l2 l3 l4 l5 l6;cases v2
      ·have q:v=false:=by
        cases v
        ·rfl
        exfalso;have:=HV.out.1 rfl;subst this;have N:=s.out.1.symm.trans s.out.2;injection N with N;subst N;exact absurd (al.out.2 rfl) (by decide)
       subst q;go_wp2;go_ret;exact ⟨rfl,bs⟩
      ·have bb:x=y:=by
        have r:=ch.out;have t:=ao.out.1 (by simp);have O:=al.out.1 (by simp);obtain ⟨x1,x2,x3⟩:=x;obtain ⟨y1,y2,y3⟩:=y;simp only at r t O;rw [r,t,O]
       have cx:Hid (a.pts.take (i+1)=b.pts.take (i+1)):=Qh (js HI.out s.out.1 (by rw [bb];exact s.out.2));clear bb;go_wp2_with fail;go_roundw
       case rel=>exact ⟨i+1,by go_num,by omega,cx,cp,c6,bs⟩
       case measure=>simp [intOf];omega
     have cu:(x.name==y.name)=false:=beq_eq_false_iff_ne.2 u
     have q:v=false:=by
      cases v
      ·rfl
      exfalso;have:=HV.out.1 rfl;subst this;have N:=s.out.1.symm.trans s.out.2;injection N with N;exact u (by rw [N])
     subst q;clear u;go_wp2;go_ret;exact ⟨rfl,C⟩
    have b9:((i:Int)<(n:Int))=False:=by simp;omega
    have t:a.pts=b.pts:=by
     have:=HI.out;rwa [List.take_of_length_le (by rw [c5.out];exact bv),List.take_of_length_le (by rw [b8.out];exact bv)] at this
    have c8:v=true:=HV.out.2 (by
     have r:=HN.out;obtain ⟨a1,a2⟩:=a;obtain ⟨Q,S⟩:=b;simp only at r t
     rw [r,t])
    subst c8;have a6:=xa.cell 1;clear t;go_wp2;go_ret;exact ⟨rfl,L⟩
  have d7:((n:Int)==(n':Int))=false:=by simp;omega
  have dO:¬ (n:Int)=(n':Int):=by omega
  have q:v=false:=by
   cases v
   ·rfl
   exfalso;have:=HV.out.1 rfl;subst this;exact el (H.out.1.1.symm.trans H.out.2.1)
  subst q;have hs:(a.name==b.name)=true:=beq_iff_eq.2 en;clear en;go_in;go_wp2;go_ret;exact ⟨rfl,((ae w).alloc Qr _).alloc (by simp) _⟩
 have hs:(a.name==b.name)=false:=beq_eq_false_iff_ne.2 en
 have q:v=false:=by
  cases v
  ·rfl
  exact absurd (by rw [HV.out.1 rfl]) en
 subst q;clear en;go_in;go_wp2;go_ret;exact ⟨rfl,((ae w).alloc Qr _).alloc (by simp) _⟩
theorem kD (w:World) (A:Option Addr) (n c:Nat) (B:Option Addr) (p d:Nat) (C:Option Addr) (q e:Nat) (L:ag) (h:LkS 1000000 w A n c B p d C q e L) (A':Option Addr) (n' c':Nat) (B':Option Addr) (p' d':Nat) (C':Option Addr) (q' e':Nat) (M:ag) (X:LkS 1000000 w A' n' c' B' p' d' C' q' e' M) (ao:∀ b∈L.bodies,b.pts.length<=1000) (hn:n<=1000) (hp:p<=1000) (hq:q<=1000) (v:Bool) (hv:v=true ↔ L=M) :
 Calls Tryz.prog 16 #[.agg #[aa L.name,.slice A n c,.slice B p d,.slice C q e],.agg #[aa M.name,.slice A' n' c',.slice B' p' d',.slice C' q' e']] w (ax w (.bool v)):=by
 have H:=Qh h;have H':=Qh X;have HV:=Qh hv;have bg:=Qh ao;have m:=Qh (And.intro (And.intro h.bodies.1 X.bodies.1) (And.intro (And.intro h.joints.1 X.joints.1) (And.intro h.drivers.1 X.drivers.1)));have b7:=h.bodies.2.1;have bY:=X.bodies.2.1;have b6:=h.joints.2.1;have bz:=X.joints.2.1;have b5:=h.drivers.2.1;have bw:=X.drivers.2.1;clear h X hv ao
 have al:∀ (P:Prop),P->(L=M->¬ P)->v=false:=by
  intro P hP a7;cases v
  ·rfl
  exact absurd hP (a7 (HV.out.1 rfl))
 have r:=Qh al;clear al;have Q:Below w.heap.size w ((w.alloc (.cells #[aa L.name,.slice A n c,.slice B p d,.slice C q e] 26)).alloc (.cells #[aa M.name,.slice A' n' c',.slice B' p' d',.slice C' q' e'] 26)):=((ae w).alloc Qr _).alloc (by simp) _;by_cases en:L.name=M.name;rotate_left
 ·have hs:(L.name==M.name)=false:=beq_eq_false_iff_ne.2 en
  have k:=r.out _ en (fun h=>by rw [h];simp);subst k;clear en;go_in;go_wp2;go_ret;exact ⟨rfl,Q⟩
 have hs:(L.name==M.name)=true:=beq_iff_eq.2 en;have HN:=Qh en;clear en;by_cases I:n=n';rotate_left
 ·have f1:((n:Int)==(n':Int))=false:=by simp;omega
  have f2:¬ (n:Int)=(n':Int):=by omega
  have k:=r.out _ I (fun h=>by rw [<- m.out.1.1,<- m.out.1.2,h];simp);subst k;clear I;go_in;go_wp2;go_ret;exact ⟨rfl,Q⟩
 subst I;by_cases R:p=p';rotate_left
 ·have f1:((p:Int)==(p':Int))=false:=by simp;omega
  have f2:¬ (p:Int)=(p':Int):=by omega
  have k:=r.out _ R (fun h=>by rw [<- m.out.2.1.1,<- m.out.2.1.2,h];simp);subst k;clear R;go_in;go_wp2;go_ret;exact ⟨rfl,Q⟩
 subst R;by_cases e3:q=q';rotate_left
 ·have f1:((q:Int)==(q':Int))=false:=by simp;omega
  have f2:¬ (q:Int)=(q':Int):=by omega
  have k:=r.out _ e3 (fun h=>by rw [<- m.out.2.2.1,<- m.out.2.2.2,h];simp);subst k;clear e3;go_in;go_wp2;go_ret;exact ⟨rfl,Q⟩
 subst e3;go_in;go_wp2_with fail;go_loopw [5] (fun T wr=>∃ i:Nat,T=.int .i64 (i:Nat)/\i<=n/\Hid (L.bodies.take i=M.bodies.take i)/\Blk wr w.heap.size 26 #[aa L.name,.slice A n c,.slice B p d,.slice C q e]/\Blk wr (w.heap.size+1) 26 #[aa M.name,.slice A' n c',.slice B' p d',.slice C' q e']/\Below w.heap.size w wr) (fun T _=>n-(intOf T).toNat)
 case atStart=>exact ⟨0,rfl,Nat.zero_le _,Qh rfl,(ak w _ _ rfl).alloc _,ak _ _ _ (by simp),Q⟩
 case round =>
  clear Q;obtain ⟨i,rfl,hi,W,s,u,f⟩:=hrel;rename World=>wa;have aS:w.heap.size<wa.heap.size:=s.lt;have a6:w.heap.size+1<wa.heap.size:=u.lt;rcases Nat.lt_or_ge i n with E | aT
  ·have U:((i:Int)<(n:Int))=True:=by simp;omega
   obtain ⟨g,o,x,I,hg,_,t,hX⟩:=(H.out.bodies.bd f).at_ E;subst I;obtain ⟨g9,o9,y,I,a5,_,z,hY⟩:=(H'.out.bodies.bd f).at_ E;subst I;obtain ⟨A1,n1,c1,d0,d1,Z,_⟩:=hX;obtain ⟨A2,n2,c2,f0,f1,a0,_⟩:=hY;have a8:n1<=1000:=by rw [<- Z.1];exact bg.out x (List.mem_of_getElem? t)
   have HM:=Qh (And.intro Z a0);have j:=Qh (And.intro t z);obtain ⟨v1,an⟩:=qN (x=y);have ac:=Qh an;have D:=s.cell 1;have ab:=u.cell 1;have b0:((i:Int)<(n:Int)):=by omega
   clear Z a0 t z an;go_wp2_with fail
   go_region_held3 (fun w'=>Sees wa.heap.size wa w') (first | with_reducible exact Sees.of Qr (by assumption) | with_reducible exact Sees.of Qr (ae _).drew | exact Sees.of Qr (af (ae _) 1) | exact Sees.of Qr (af (by assumption) _))
    (first
     | (go_at_call 45;(with_reducible refine (AO _ A1 n1 c1 x ?_ A2 n2 c2 y ?_ a8 v1 ac.out).mono ?_);(exact HM.out.1.mk_ (by first | exact (ae wa).drew | exact af (ae wa) _));(exact HM.out.2.mk_ (by first | exact (ae wa).drew | exact af (ae wa) _));rintro e' w8 ⟨rfl,ad⟩;have q8:Below wa.heap.size wa w8:=(by first | exact ai (ae wa).drew ad | exact ai (af (ae wa) _) ad)))
   have aC:=f.trans (q8.mono f.size);have bk:=s.below q8 s.lt;have bb:=u.below q8 u.lt;clear D ab d0 d1 f0 f1;cases v1
   ·have k:=r.out (x≠y) (fun h=>absurd (ac.out.2 h) (by decide)) (fun h=>by
     subst h;have l:=j.out.1.symm.trans j.out.2;injection l with l
     exact fun h=>h l)
    subst k;go_wp2;go_ret;exact ⟨rfl,aC⟩
   have F:x=y:=ac.out.1 (by simp);have J:Hid (L.bodies.take (i+1)=M.bodies.take (i+1)):=Qh (js W.out j.out.1 (by rw [F];exact j.out.2));clear F;go_wp2_with fail;go_roundw
   case rel=>exact ⟨i+1,by go_num,by omega,J,bk,bb,aC⟩
   case measure=>simp [intOf];omega
  have U:((i:Int)<(n:Int))=False:=by simp;omega
  have R:L.bodies=M.bodies:=by
   have:=W.out;rwa [List.take_of_length_le (by rw [m.out.1.1];exact aT),List.take_of_length_le (by rw [m.out.1.2];exact aT)] at this
  have HB:=Qh R;have D:=s.cell 1;have bf:=s.cell 2;clear R;go_wp2_with fail;clear D bf;go_loopw [6] (fun T wr=>∃ N:Nat,T=.int .i64 (N:Nat)/\N<=p/\Hid (L.joints.take N=M.joints.take N)/\Blk wr w.heap.size 26 #[aa L.name,.slice A n c,.slice B p d,.slice C q e]/\Blk wr (w.heap.size+1) 26 #[aa M.name,.slice A' n c',.slice B' p d',.slice C' q e']/\Below w.heap.size w wr) (fun T _=>p-(intOf T).toNat)
  case atStart=>exact ⟨0,rfl,Nat.zero_le _,Qh rfl,s,u,f⟩
  case round =>
   clear s u f;obtain ⟨N,rfl,bv,W,s,u,f⟩:=hrel;rename World=>wi2;have aS:w.heap.size<wi2.heap.size:=s.lt;have a6:w.heap.size+1<wi2.heap.size:=u.lt;rcases Nat.lt_or_ge N p with E | S
   ·have U:((N:Int)<(p:Int))=True:=by simp;omega
    have bu:((N:Int)<(p:Int)):=by omega
    obtain ⟨g,o,x,I,hg,_,t,hX⟩:=(H.out.joints.jt f).at_ E;subst I;obtain ⟨g9,o9,y,I,a5,_,z,hY⟩:=(H'.out.joints.jt f).at_ E;subst I;have j:=Qh (And.intro t z);obtain ⟨d0,d1,d2,d3,d4,d5,d6,_⟩:=hX;obtain ⟨f0,f1,f2,f3,f4,f5,f6,_⟩:=hY;have D:=s.cell 2;have ab:=u.cell 2;have bl:=FE;have bn:=FF;clear t z;by_cases G:x.name=y.name;rotate_left
    ·have h0:(x.name==y.name)=false:=beq_eq_false_iff_ne.2 G
     have t0:((⟨x.name.toArray⟩:ByteArray).toList==(⟨y.name.toArray⟩:ByteArray).toList)=false:=by rw [ByteArray.toList_eq,ByteArray.toList_eq];simpa using G
     have k:=r.out _ G (fun h=>by
      subst h;have l:=j.out.1.symm.trans j.out.2;injection l with l
      rw [l];simp)
     subst k;clear G;go_wp2_with fail;go_quiet (fail);go_wp2;go_ret;exact ⟨rfl,by first | exact f | exact af f _⟩
    have h0:(x.name==y.name)=true:=beq_iff_eq.2 G;have t0:((⟨x.name.toArray⟩:ByteArray).toList==(⟨y.name.toArray⟩:ByteArray).toList)=true:=by rw [ByteArray.toList_eq,ByteArray.toList_eq];simpa using G
    have K0:=Qh G;clear G;by_cases O:x.kind=y.kind;rotate_left
    ·have h1:(x.kind==y.kind)=false:=beq_eq_false_iff_ne.2 O
     have k:=r.out _ O (fun h=>by
      subst h;have l:=j.out.1.symm.trans j.out.2;injection l with l
      rw [l];simp)
     subst k;clear O;go_wp2_with fail;go_quiet (fail);go_wp2;go_ret;exact ⟨rfl,by first | exact f | exact af f _⟩
    have h1:(x.kind==y.kind)=true:=beq_iff_eq.2 O;have K1:=Qh O;clear O;by_cases k2:x.a=y.a;rotate_left
    ·have h2:(x.a==y.a)=false:=beq_eq_false_iff_ne.2 k2
     have k:=r.out _ k2 (fun h=>by
      subst h;have l:=j.out.1.symm.trans j.out.2;injection l with l
      rw [l];simp)
     subst k;clear k2;go_wp2_with fail;go_quiet (fail);go_wp2;go_ret;exact ⟨rfl,by first | exact f | exact af f _⟩
    have h2:(x.a==y.a)=true:=beq_iff_eq.2 k2;have K2:=Qh k2;clear k2;by_cases k3:x.point=y.point;rotate_left
    ·have h3:(x.point==y.point)=false:=beq_eq_false_iff_ne.2 k3
     have k:=r.out _ k3 (fun h=>by
      subst h;have l:=j.out.1.symm.trans j.out.2;injection l with l
      rw [l];simp)
     subst k;clear k3;go_wp2_with fail;go_quiet (fail);go_wp2;go_ret;exact ⟨rfl,by first | exact f | exact af f _⟩
    have h3:(x.point==y.point)=true:=beq_iff_eq.2 k3;have K3:=Qh k3;clear k3;by_cases k4:x.b=y.b;rotate_left
    ·have h4:(x.b==y.b)=false:=beq_eq_false_iff_ne.2 k4
     have k:=r.out _ k4 (fun h=>by
      subst h;have l:=j.out.1.symm.trans j.out.2;injection l with l
      rw [l];simp)
     subst k;clear k4;go_wp2_with fail;go_quiet (fail);go_wp2;go_ret;exact ⟨rfl,by first | exact f | exact af f _⟩
    have h4:(x.b==y.b)=true:=beq_iff_eq.2 k4;have K4:=Qh k4;clear k4;by_cases k5:x.on=y.on;rotate_left
    ·have h5:(x.on==y.on)=false:=beq_eq_false_iff_ne.2 k5
     have k:=r.out _ k5 (fun h=>by
      subst h;have l:=j.out.1.symm.trans j.out.2;injection l with l
      rw [l];simp)
     subst k;clear k5;go_wp2_with fail;go_quiet (fail);go_wp2;go_ret;exact ⟨rfl,by first | exact f | exact af f _⟩
    have h5:(x.on==y.on)=true:=beq_iff_eq.2 k5;have K5:=Qh k5;clear k5;by_cases k6:x.to_=y.to_;rotate_left
    ·have h6:(x.to_==y.to_)=false:=beq_eq_false_iff_ne.2 k6
     have k:=r.out _ k6 (fun h=>by
      subst h;have l:=j.out.1.symm.trans j.out.2;injection l with l
      rw [l];simp)
     subst k;clear k6;go_wp2_with fail;go_quiet (fail);go_wp2;go_ret;exact ⟨rfl,by first | exact f | exact af f _⟩
    have h6:(x.to_==y.to_)=true:=beq_iff_eq.2 k6;have K6:=Qh k6;clear k6
    have F:x=y:=by
     have Y:=K0.out;have q1:=K1.out;have q2:=K2.out;have q3:=K3.out;have q4:=K4.out;have q5:=K5.out;have q6:=K6.out;obtain ⟨x0,x1,x2,x3,x4,x5,x6⟩:=x;obtain ⟨y0,y1,y2,y3,y4,y5,y6⟩:=y;simp only at Y q1 q2 q3 q4 q5 q6;rw [Y,q1,q2,q3,q4,q5,q6]
    have J:Hid (L.joints.take (N+1)=M.joints.take (N+1)):=Qh (js W.out j.out.1 (by rw [F];exact j.out.2));clear F;go_wp2_with fail;go_quiet (fail);go_wp2_with fail;go_roundw
    case rel=>first | exact ⟨N+1,by go_num,by omega,J,s,u,f⟩ | exact ⟨N+1,by go_num,by omega,J,s.drewN _,u.drewN _,af f _⟩
    case measure=>simp [intOf];omega
   have U:((N:Int)<(p:Int))=False:=by simp;omega
   have R:L.joints=M.joints:=by
    have:=W.out;rwa [List.take_of_length_le (by rw [m.out.2.1.1];exact S),List.take_of_length_le (by rw [m.out.2.1.2];exact S)] at this
   have br:=Qh R;have D:=s.cell 2;clear R;go_wp2_with fail;clear D;go_loopw [7] (fun T wr=>∃ K:Nat,T=.int .i64 (K:Nat)/\K<=q/\Hid (L.drivers.take K=M.drivers.take K)/\Blk wr w.heap.size 26 #[aa L.name,.slice A n c,.slice B p d,.slice C q e]/\Blk wr (w.heap.size+1) 26 #[aa M.name,.slice A' n c',.slice B' p d',.slice C' q e']/\Below w.heap.size w wr) (fun T _=>q-(intOf T).toNat)
   case atStart=>exact ⟨0,rfl,Nat.zero_le _,Qh rfl,s,u,f⟩
   case round =>
    clear s u f;obtain ⟨K,rfl,bx,W,s,u,f⟩:=hrel;rename World=>wi3;have aS:w.heap.size<wi3.heap.size:=s.lt;have a6:w.heap.size+1<wi3.heap.size:=u.lt;rcases Nat.lt_or_ge K q with E | V
    ·have U:((K:Int)<(q:Int))=True:=by simp;omega
     have bu:((K:Int)<(q:Int)):=by omega
     obtain ⟨g,o,x,I,hg,_,t,hX⟩:=(H.out.drivers.dr f).at_ E;subst I;obtain ⟨g9,o9,y,I,a5,_,z,hY⟩:=(H'.out.drivers.dr f).at_ E;subst I;have j:=Qh (And.intro t z);obtain ⟨d0,d1,_⟩:=hX;obtain ⟨f0,f1,_⟩:=hY;have D:=s.cell 3;have ab:=u.cell 3;have bl:=FG;have bn:=FH;clear t z;by_cases G:x.name=y.name;rotate_left
     ·have h0:(x.name==y.name)=false:=beq_eq_false_iff_ne.2 G
      have t0:((⟨x.name.toArray⟩:ByteArray).toList==(⟨y.name.toArray⟩:ByteArray).toList)=false:=by rw [ByteArray.toList_eq,ByteArray.toList_eq];simpa using G
      have k:=r.out _ G (fun h=>by
       subst h;have l:=j.out.1.symm.trans j.out.2;injection l with l
       rw [l];simp)
      subst k;clear G;go_wp2_with fail;go_quiet (fail);go_wp2;go_ret;exact ⟨rfl,by first | exact f | exact af f _⟩
     have h0:(x.name==y.name)=true:=beq_iff_eq.2 G;have t0:((⟨x.name.toArray⟩:ByteArray).toList==(⟨y.name.toArray⟩:ByteArray).toList)=true:=by rw [ByteArray.toList_eq,ByteArray.toList_eq];simpa using G
     have K0:=Qh G;clear G;by_cases O:x.body=y.body;rotate_left
     ·have h1:(x.body==y.body)=false:=beq_eq_false_iff_ne.2 O
      have k:=r.out _ O (fun h=>by
       subst h;have l:=j.out.1.symm.trans j.out.2;injection l with l
       rw [l];simp)
      subst k;clear O;go_wp2_with fail;go_quiet (fail);go_wp2;go_ret;exact ⟨rfl,by first | exact f | exact af f _⟩
     have h1:(x.body==y.body)=true:=beq_iff_eq.2 O;have K1:=Qh O;clear O
     have F:x=y:=by
      have Y:=K0.out;have q1:=K1.out;obtain ⟨x0,x1⟩:=x;obtain ⟨y0,y1⟩:=y;simp only at Y q1;rw [Y,q1]
     have J:Hid (L.drivers.take (K+1)=M.drivers.take (K+1)):=Qh (js W.out j.out.1 (by rw [F];exact j.out.2));clear F;go_wp2_with fail;go_quiet (fail);go_wp2_with fail;go_roundw
     case rel=>first | exact ⟨K+1,by go_num,by omega,J,s,u,f⟩ | exact ⟨K+1,by go_num,by omega,J,s.drewN _,u.drewN _,af f _⟩
     case measure=>simp [intOf];omega
    have U:((K:Int)<(q:Int))=False:=by simp;omega
    have R:L.drivers=M.drivers:=by
     have:=W.out;rwa [List.take_of_length_le (by rw [m.out.2.2.1];exact V),List.take_of_length_le (by rw [m.out.2.2.2];exact V)] at this
    have a9:=Qh R;have D:=s.cell 3;clear R
    have bs:v=true:=HV.out.2 (by
     have Y:=HN.out;have q1:=HB.out;have q2:=br.out;have q3:=a9.out;obtain ⟨a1,a2,a3,a4⟩:=L;obtain ⟨b1,b2,b3,b4⟩:=M;simp only at Y q1 q2 q3
     rw [Y,q1,q2,q3])
    subst bs;go_wp2;go_ret;exact ⟨rfl,f⟩
theorem rdw (q:Rat):RdW (rd q):=Dg q
theorem eM.err {s:List UInt8}{x:Int}{L:ag}(h:eM s x L) (a:x≠0):L=L0:=by
 cases h with
 | split _ _ _ h=>exact h
 | read _ _ _ _ h=>exact h
 | check _ _ _ _ _ h=>exact h
 | ok l hs hr hc h hL=>exact absurd h a
theorem LkS.mono {k i:Nat}{w:World}{A B C:Option Addr}{n c p d q e:Nat}{L:ag}(h:LkS k w A n c B p d C q e L) (j:k<=i):LkS i w A n c B p d C q e L:=by
 have l:∀ g o r,dh w g o r k->dh w g o r i:=fun g o r ⟨b,A,n,c,D,m,e,x,t,E,a⟩=>⟨b,A,n,c,D,m,e,x,t,E,a.1,a.2.1,a.2.2.1,Nat.le_trans a.2.2.2.1 j,Nat.le_trans a.2.2.2.2 j⟩
 refine ⟨h.name,h.bodies.mono_ fun g o b _ z=>?_,h.joints,h.drivers⟩;obtain ⟨y,s,u,c0,c1,v,F⟩:=z;exact ⟨y,s,u,c0,c1,v.mono_ fun g o m _ f=>⟨f.1,l _ _ _ f.2.1,l _ _ _ f.2.2.1,f.2.2.2⟩,F⟩
theorem dJ {L:ag}(h:aG L=0):gH L:=by
 have a:=da h;exact ⟨fun b hb m c=>⟨((a.body b hb).pts m c).x,((a.body b hb).pts m c).y⟩,by have:=a.ok.nb;omega,by have:=a.ok.nj;omega,by have:=a.ok.nd;omega,fun b hb=>by have:=(a.ok.body b hb).np;omega⟩
def frL:ag:=⟨[109],[bdF],[],[]⟩
def bdK:aj:=⟨[99,114,97,110,107],[mkO,⟨[65],rd 1,rd 0⟩]⟩
def oi:ag:=⟨[109],[bdF,bdK],[⟨[106],0,1,0,0,0,0⟩],[]⟩
def crT:List UInt8:=[98,111,100,121,32,99,114,97,110,107,32,123,32,79,32,48,32,48,59,32,65,32,49,32,48,59].append [32,125,32,112,105,110,32,106,32,99,114,97,110,107,46,79,32,102,114,97,109,101,46,79,59]
def crE:bo:=⟨0,[],crT⟩
theorem qO:aG frL=0:=by decide +kernel
theorem kE:aG oi=0:=by decide +kernel
theorem CF:cP frL=0:=by decide +kernel
theorem AP:Bn.shape (dE (cO frL++32::crT))=some (nC oi):=by decide +kernel
theorem AQ:ix oi.bodies≠true:=by decide +kernel
theorem EB:LkW oi:=by
 intro b hb m c;have h:b=bdF\/b=bdK:=by simpa [oi] using hb
 have a:m=mkO\/m=mkC\/m=⟨[65],rd 1,rd 0⟩:=by
  rcases h with rfl | rfl
  ·have:m=mkO\/m=mkC:=by simpa [bdF] using c
   rcases this with h | h
   ·exact .inl h
   exact .inr (.inl h)
  have:m=mkO\/m=⟨[65],rd 1,rd 0⟩:=by simpa [bdK] using c
  rcases this with h | h
  ·exact .inl h
  exact .inr (.inr h)
 rcases a with rfl | rfl | rfl <;> exact ⟨rdw _,rdw _⟩
theorem CG:eM (cO frL++32::crT) 0 oi:=by
 have h:=AP
 cases ht:dE (cO frL++32::crT) with
 | err n=>rw [ht] at h;cases h
 | ok l =>
  rw [ht] at h;injection h with h;obtain ⟨b,a⟩:=xG (l:=l) h (da kE) EB AQ;exact .ok l (.ok (by decide +kernel) ht rfl) b (by rw [a];exact kE) rfl a.symm
theorem CH (w:World):Calls Tryz.prog 25 #[] w (fun e u=>∃ g,e=.returned (.agg #[aa frL.name,.slice (some ⟨g,0,none⟩) 1 1,.slice none 0 0,.slice none 0 0])/\LkS 40 u (some ⟨g,0,none⟩) 1 1 none 0 0 none 0 0 frL/\Below w.heap.size w u):=by
 go_in;go_wp2_with fail;have o:=(ae w).alloc Qr (.cells #[.string ⟨#[]⟩,.slice none 0 0,.slice none 0 0,.slice none 0 0] 26);have x0:Blk (w.alloc (.cells #[.string ⟨#[]⟩,.slice none 0 0,.slice none 0 0,.slice none 0 0] 26)) w.heap.size 26 #[.string ⟨#[]⟩,.slice none 0 0,.slice none 0 0,.slice none 0 0]:=Blk.new _ _ _;generalize (w.alloc (.cells #[.string ⟨#[]⟩,.slice none 0 0,.slice none 0 0,.slice none 0 0] 26))=w0 at o x0 ⊢;refine (Ga w0 4 (by decide) (by decide)).mono ?_;rintro Q a ⟨b,A,n,c,D,m,e,rfl,B,j⟩;have k:=x0.below j x0.lt;have q1:=o.trans (j.mono o.size);have F:=k.lt;have H:¬ w.heap.size=a.heap.size:=by omega
 have E:¬ w.heap.size=a.heap.size+1:=by omega
 obtain ⟨N,O,P,K⟩:=k.c4;obtain ⟨b0,G,M,J⟩:=k.f4;have y:=Qh B;clear x0 o j B;go_wp2_with fail;refine bodyPost_ret (v:=.agg #[aa [109],.slice (some ⟨a.heap.size+1,0,none⟩) 1 1,.slice none 0 0,.slice none 0 0]) (by simp [results,Tryz.results25,go_sem, *] <;> trivial) rfl ?_;have C:((((a.setCell ⟨w.heap.size,0,none⟩ (.string ⟨#[109]⟩)).setCell ⟨w.heap.size,1,none⟩ (.slice (some ⟨a.heap.size+1,0,none⟩) 1 1)).setCell ⟨w.heap.size,2,none⟩ (.slice none 0 0)).setCell ⟨w.heap.size,3,none⟩ (.slice none 0 0)).heap.size=a.heap.size:=by simp [World.setCell]
 have x:=lp k ⟨rfl,rfl,rfl,rfl⟩ (.string ⟨#[109]⟩) (.slice (some ⟨a.heap.size+1,0,none⟩) 1 1) (.slice none 0 0) (.slice none 0 0);have l:QD _ b A n c D m e (rd 4) 1:=QD.tch y.out x;have q:=dd q1 Qr (.string ⟨#[109]⟩) (.slice (some ⟨a.heap.size+1,0,none⟩) 1 1) (.slice none 0 0) (.slice none 0 0);generalize ((((a.setCell ⟨w.heap.size,0,none⟩ (.string ⟨#[109]⟩)).setCell ⟨w.heap.size,1,none⟩ (.slice (some ⟨a.heap.size+1,0,none⟩) 1 1)).setCell ⟨w.heap.size,2,none⟩ (.slice none 0 0)).setCell ⟨w.heap.size,3,none⟩ (.slice none 0 0))=w4 at C l q ⊢;rw [<- C];clear k x y N O P K b0 G M J;have I:=Gg (w:=w4) (nm:=[67]) (t:=56) (l.mono (show 1<=40 by decide)) (qv0 w4).rd_ rfl;obtain ⟨p,i,r⟩:=I;injection i with i;injection i with i;injection i with i;subst i;have L:=(ae w4).alloc Qr (.cells #[.string ⟨#[79]⟩,.bool false,.slice none 0 0,.slice none 0 0,.bool false,.slice none 0 0,.slice none 0 0,aa [67],.bool b,.slice A n c,.slice D m e,.bool false,.slice none 0 0,.slice none 0 0] 56);have d:(w4.alloc (.cells #[.string ⟨#[79]⟩,.bool false,.slice none 0 0,.slice none 0 0,.bool false,.slice none 0 0,.slice none 0 0,aa [67],.bool b,.slice A n c,.slice D m e,.bool false,.slice none 0 0,.slice none 0 0] 56)).heap.size=w4.heap.size+1:=by simp
 have f:=q.trans (L.mono q.size);generalize (w4.alloc (.cells #[.string ⟨#[79]⟩,.bool false,.slice none 0 0,.slice none 0 0,.bool false,.slice none 0 0,.slice none 0 0,aa [67],.bool b,.slice A n c,.slice D m e,.bool false,.slice none 0 0,.slice none 0 0] 56))=w5 at r d f ⊢;generalize w4.heap.size=p at r d ⊢;rw [<- d];have z:=(ae w5).alloc Qr (.cells #[aa [102,114,97,109,101],.slice (some ⟨p,0,none⟩) 2 2] 51);have s:=Blk.new w5 51 #[aa [102,114,97,109,101],.slice (some ⟨p,0,none⟩) 2 2];exact ⟨w5.heap.size,rfl,⟨by show ([109]:List UInt8).length<_;decide,Fp s.lt ⟨_,_,_,s.cell 0,s.cell 1,r.mk_ z,by show ([102,114,97,109,101]:List UInt8).length<_;decide⟩,⟨rfl,Qr,fun h=>absurd h (by omega)⟩,⟨rfl,Qr,fun h=>absurd h (by omega)⟩⟩,f.trans (z.mono f.size)⟩
theorem vL (w:World):Calls Tryz.prog 26 #[] w (ax w (.agg #[.int .i64 crE.kind,aa crE.name,aa crE.text])):=by
 go_in;go_wp2_with fail;refine bodyPost_ret (v:=.agg #[.int .i64 crE.kind,aa crE.name,aa crE.text]) (by simp [results,Tryz.results26,go_sem, *] <;> first | rfl | exact ⟨rfl,rfl⟩ | exact ⟨rfl,rfl,rfl⟩) rfl ?_;exact ⟨rfl,(ae w).alloc Qr _⟩
theorem vM (N:Nat->Prop) (B:Nat) (w:World) (A:Option Addr) (n c:Nat) (C:Option Addr) (p d:Nat) (D:Option Addr) (q e:Nat) (L:ag) (h:LkS 130 w A n c C p d D q e L) (s:aG L=0) (hB:B<=w.heap.size) (hN:∀ x,N x->x<w.heap.size):Calls Tryz.prog 12 #[.agg #[aa L.name,.slice A n c,.slice C p d,.slice D q e]] w (fun i l=>∃ gl,i=.returned (.tuple #[.pointer (some ⟨gl,0,none⟩),.nilIface])/\cT N B l gl ⟨L,[],[],[]⟩/\Below w.heap.size w l):=by
 have f:=(ae w).alloc Qr (.cells #[aa L.name,.slice A n c,.slice C p d,.slice D q e] 26);have x0:Blk (w.alloc (.cells #[aa L.name,.slice A n c,.slice C p d,.slice D q e] 26)) w.heap.size 26 #[aa L.name,.slice A n c,.slice C p d,.slice D q e]:=Blk.new _ _ _;have g:=Qh (h.belw f);go_in;go_wp2_with fail;generalize (w.alloc (.cells #[aa L.name,.slice A n c,.slice C p d,.slice D q e] 26))=w0 at f x0 g ⊢;refine (dz w0 A n c C p d D q e L 130 g.out (by decide) (by decide) 0 s).mono ?_;rintro i y ⟨rfl,a⟩;rw [aO];have K:=x0.below a x0.lt;have E:=Qh (g.out.belw a);have q1:=f.trans (a.mono f.size);obtain ⟨H,I,J,z⟩:=K.c4;clear x0 f a h;go_wp2_with fail;refine (Es y A n c C p d D q e L E.out (dJ s)).mono ?_;rintro i u ⟨t,v,c2,m,p2,d2,r,q2,f2,rfl,b,j⟩;have o:=q1.trans (j.mono q1.size);have F:=Qh b.lkY;clear H I J z b;go_wp2_with fail;go_ret2;have q3:=(ae u).alloc Qr (.cells #[aa L.name,.slice t v c2,.slice m p2 d2,.slice r q2 f2,.slice none 0 0,.slice none 0 0,.slice none 0 0] 73);have G:=o.size;refine ⟨u.heap.size,rfl,⟨t,v,c2,m,p2,d2,r,q2,f2,.slice none 0 0,.slice none 0 0,.slice none 0 0,⟨Blk.new _ _ _,by omega,fun x k=>?_,fun k=>?_,rfl,rfl,rfl,rfl,rfl,rfl,rfl⟩,F.out.blw q3,bC.nil,bC.nil,bC.nil,fun x e=>by cases e⟩,o.trans (q3.mono G)⟩
 ·have:=hN x k
  have:=q3.size;omega
 have:=hN _ k;omega
theorem sW {s:Nat}:∀ {a:List (List Value)}{i j:Nat}{cs:List Value}{u:Value},(∀ x∈a,x.length=s)->a[i]?=some cs->j<s->(a.set i (cs.set j u)).flatten=a.flatten.set (i*s+j) u
 | [],i,j,cs,u,_,h,_=>by simp at h
 | x::a,0,j,cs,u,hl,h,hj=>by
  have b:=hl x (by simp);simp only [List.getElem?_cons_zero,Option.some.injEq] at h;subst h;rw [List.set_cons_zero,List.flatten_cons,List.flatten_cons,Nat.zero_mul,Nat.zero_add,List.set_append_left _ _ (by omega)]
 | x::a,i+1,j,cs,u,hl,h,hj=>by
  have b:=hl x (by simp);have d:(i+1)*s=i*s+s:=Nat.succ_mul i s;rw [List.set_cons_succ,List.flatten_cons,List.flatten_cons,List.set_append_right _ _ (by omega),b,show (i+1)*s+j-s=i*s+j by omega,sW (fun y c=>hl y (by simp [c])) (by simpa using h) hj]
theorem ap.set {α:Type}{T0:TypeId}{Pc:World->List Value->α->Prop}{s:Nat}{w:World}{B g n c i j:Nat}{l:List α}{a a':α}{u:Value}(h:ap T0 Pc s w B (.slice (some ⟨g,0,none⟩) n c) n l) (M:l[i]?=some a) (X:j<s) (V:noW u=true)
 (P:∀ cs b,Tch (aW T0) w (w.setCell ⟨g,i*s+j,none⟩ u)->Pc w cs b->Pc (w.setCell ⟨g,i*s+j,none⟩ u) cs b) (Y:∀ cs,Pc (w.setCell ⟨g,i*s+j,none⟩ u) cs a->Pc (w.setCell ⟨g,i*s+j,none⟩ u) (cs.set j u) a') :
 ap T0 Pc s (w.setCell ⟨g,i*s+j,none⟩ u) B (.slice (some ⟨g,0,none⟩) n c) n (l.set i a')/\Tch (aW T0) w (w.setCell ⟨g,i*s+j,none⟩ u)/\B<=g/\g<w.heap.size:=by
 obtain ⟨L,F,⟨v,q⟩,p,e,H,o,K⟩:=h
 obtain ⟨cur,hB,hb,E,z,G,A,f⟩:∃ cur,B<=g/\w.heap[g]?=some (.cells cur T0 (0,0))/\n<=c/\c<=maxLen/\cur.size=c*s/\cur.toList.take (n*s)=F/\cur.toList.all noW=true:=by
  rcases q with ⟨e,_⟩ | ⟨Z,I,cur,e,Q,W,R,J,O,S,U⟩
  ·cases e
  injection e with e1 _ e3;injection e1 with e1;injection e1 with e1;subst e1 e3;exact ⟨cur,Q,W,R,J,O,S,U⟩
 have D:i<n:=by rw [<- L];exact (List.getElem?_eq_some_iff.1 M).1
 have t:p[i]?=some p[i]:=List.getElem?_eq_getElem (by omega);have J:(i+1)*s=i*s+s:=Nat.succ_mul i s;have O:(i+1)*s<=n*s:=Nat.mul_le_mul_right _ D;have N:Blk w g T0 cur:=hb;have x:=N.set_ (i*s+j) u;have C:Tch (aW T0) w (w.setCell ⟨g,i*s+j,none⟩ u):=Tch.set N (by simp [aW]) f _ _
 have r:(cur.setIfInBounds (i*s+j) u).toList.take (n*s)=F.set (i*s+j) u:=by
  rw [Array.toList_setIfInBounds,List.take_set,A]
 refine ⟨⟨by rw [List.length_set,L],F.set (i*s+j) u,⟨by rw [List.length_set,v],.inr ⟨g,c,_,rfl,hB,x,E,z,by rw [Array.size_setIfInBounds,G],r,?_⟩⟩,p.set i (p[i].set j u),?_,by rw [List.length_set,List.length_set,H],fun y m=>?_,fun k b T d hd=>?_⟩,C,hB,lt_of_block hb⟩
 ·rw [Array.toList_setIfInBounds]
  rw [List.all_eq_true] at f ⊢;intro y m;rcases List.mem_or_eq_of_mem_set m with m | m
  ·exact f y m
  rw [m];exact V
 ·rw [sW o t X,e]
 ·rcases List.mem_or_eq_of_mem_set m with m | m
  ·exact o y m
  rw [m,List.length_set];exact o _ (List.getElem_mem _)
 rw [List.getElem?_set] at d hd;by_cases hk:i=k
 ·subst hk
  rw [if_pos rfl,if_pos (by omega)] at d;rw [if_pos rfl,if_pos (by omega)] at hd;injection d with d;injection hd with hd;subst d hd;exact Y _ (P _ _ C (K i a _ M t))
 rw [if_neg hk] at d hd;exact P _ _ C (K k b T d hd)
theorem ap.cell {α:Type}{T0:TypeId}{Pc:World->List Value->α->Prop}{s:Nat}{w:World}{B g n c i j:Nat}{l:List α}(h:ap T0 Pc s w B (.slice (some ⟨g,0,none⟩) n c) n l) (u:i<n) (C:j<s):w.frozen? ⟨g,i*s+j,none⟩=false/\(∃ v,w.cell? ⟨g,i*s+j,none⟩=some v):=by
 obtain ⟨q,t,⟨k,a⟩,_⟩:=h;rcases a with ⟨e,_⟩ | ⟨x,d,cur,e,r,f,A,E,y,D,p⟩
 ·cases e
 injection e with e1 _ e3;injection e1 with e1;injection e1 with e1;subst e1 e3;have z:(i+1)*s=i*s+s:=Nat.succ_mul i s;have o:(i+1)*s<=c*s:=Nat.mul_le_mul_right _ (by omega);have m:Blk w g T0 cur:=f;have b:i*s+j<cur.size:=by omega
 exact ⟨m.frozen _,cur[i*s+j],by unfold World.cell?;rw [f];simp [b]⟩
theorem ap.some_ {α:Type}{T0:TypeId}{Pc:World->List Value->α->Prop}{s:Nat}{w:World}{B n c i:Nat}{A:Option Addr}{l:List α}{a:α}(h:ap T0 Pc s w B (.slice A n c) n l) (b:l[i]?=some a):∃ g,A=some ⟨g,0,none⟩:=by
 obtain ⟨g,_,e,_⟩:=h.at_ b;exact ⟨g,e⟩
def kF (L:ag) (i:Nat) (b:aj) (nm:List UInt8):ag:=⟨L.name,L.bodies.set i ⟨nm,b.pts⟩,L.joints,L.drivers⟩
def uh (L:ag) (old new:List UInt8) (x:Int) (L':ag):Prop:=(gI (L.bodies.map aj.name) old=-1/\x=5/\L'=L0)\/∃ (i:Nat) (b:aj),gI (L.bodies.map aj.name) old=(i:Nat)/\L.bodies[i]?=some b/\((aG (kF L i b new)≠0/\x=aG (kF L i b new)/\L'=L0)\/(aG (kF L i b new)=0/\x=0/\L'=kF L i b new))
theorem ED (L:ag) (old new:List UInt8):∃ x L',uh L old new x L':=by
 rcases idxN_cases (L.bodies.map aj.name) old with h | ⟨i,h,a⟩
 ·exact ⟨5,L0,.inl ⟨h,rfl,rfl⟩⟩
 rw [List.getElem?_map] at a;obtain ⟨b,hb,_⟩:=Option.map_eq_some_iff.1 a;by_cases hx:aG (kF L i b new)=0
 ·exact ⟨0,_,.inr ⟨i,b,h,hb,.inr ⟨hx,rfl,rfl⟩⟩⟩
 exact ⟨_,L0,.inr ⟨i,b,h,hb,.inl ⟨hx,rfl,rfl⟩⟩⟩
theorem CpO.lkS {B:Nat}{w:World}{A C D:Option Addr}{n c p d q e:Nat}{L:ag}(h:CpO B w A n c C p d D q e L):LkS 130 w A n c C p d D q e L:=h.lkY.out
theorem Gn (w:World) (A:Option Addr) (n c:Nat) (B:Option Addr) (p d:Nat) (C:Option Addr) (q e:Nat) (L:ag) (h:LkS 130 w A n c B p d C q e L) (a:gH L):Calls Tryz.prog 74 #[.agg #[aa L.name,.slice A n c,.slice B p d,.slice C q e]] w (sO w L) :=
 Am w A n c B p d C q e L h a.ok (by rw [<- h.bodies.1];exact a.nb) (by rw [<- h.joints.1];exact a.nj) (by rw [<- h.drivers.1];exact a.nd) a.np
theorem nG {B h k:Nat}{w:World}{A C D:Option Addr}{n c p d q e:Nat}{L:ag}(hb:ap 51 (BdC 130) 2 w B (.slice A n c) n L.bodies) (j:ap 81 JtC 7 w h (.slice C p d) p L.joints) (hd:ap 86 DrC 2 w k (.slice D q e) q L.drivers) (i:NmL L.name):LkY 130 w A n c C p d D q e L:=fun _ _ t f a g b =>
 ⟨i,(hb.tch t f (fun _ _ x=>x.tch t b)).bds,(j.tch t a (fun _ _ x=>x)).jts,(hd.tch t g (fun _ _ x=>x)).drs⟩
theorem AR (w:World) (A:Option Addr) (n c:Nat) (C:Option Addr) (p d:Nat) (D:Option Addr) (q e:Nat) (L:ag) (h:LkS 130 w A n c C p d D q e L) (hL:aG L=0) (old new:List UInt8) (O:NmL new) (x:Int) (L':ag) (hR:uh L old new x L'):Calls Tryz.prog 36 #[.agg #[aa L.name,.slice A n c,.slice C p d,.slice D q e],aa old,aa new] w (gG w (aV x) L'):=by
 have x0:Blk (((w.alloc (.cells #[aa L.name,.slice A n c,.slice C p d,.slice D q e] 26)).alloc (.cells #[aa old] 9)).alloc (.cells #[.string ⟨#[]⟩,.slice none 0 0,.slice none 0 0,.slice none 0 0] 26)) w.heap.size 26 #[aa L.name,.slice A n c,.slice C p d,.slice D q e]:=((Blk.new _ _ _).alloc _).alloc _;have y0:Blk (((w.alloc (.cells #[aa L.name,.slice A n c,.slice C p d,.slice D q e] 26)).alloc (.cells #[aa old] 9)).alloc (.cells #[.string ⟨#[]⟩,.slice none 0 0,.slice none 0 0,.slice none 0 0] 26)) (w.heap.size+1) 9 #[aa old]:=(ak _ _ _ (by simp)).alloc _;have X:Blk (((w.alloc (.cells #[aa L.name,.slice A n c,.slice C p d,.slice D q e] 26)).alloc (.cells #[aa old] 9)).alloc (.cells #[.string ⟨#[]⟩,.slice none 0 0,.slice none 0 0,.slice none 0 0] 26)) (w.heap.size+1+1) 26 #[.string ⟨#[]⟩,.slice none 0 0,.slice none 0 0,.slice none 0 0]:=ak _ _ _ (by simp);have W:=(((ae w).alloc Qr (.cells #[aa L.name,.slice A n c,.slice C p d,.slice D q e] 26)).alloc (by simp) (.cells #[aa old] 9)).alloc (by simp;omega) (.cells #[.string ⟨#[]⟩,.slice none 0 0,.slice none 0 0,.slice none 0 0] 26);have Y:=Qh (h.belw W);have HR:=Qh hR;have ad:=Qh O;clear h hR O;go_in;go_wp2_with fail;generalize (((w.alloc (.cells #[aa L.name,.slice A n c,.slice C p d,.slice D q e] 26)).alloc (.cells #[aa old] 9)).alloc (.cells #[.string ⟨#[]⟩,.slice none 0 0,.slice none 0 0,.slice none 0 0] 26))=w0 at x0 y0 X W Y ⊢;refine (dz w0 A n c C p d D q e L 130 Y.out (by decide) (by decide) 0 hL).mono ?_;rintro e' w1 ⟨rfl,l⟩;rw [aO];have x1:=x0.below l x0.lt;have y1:=y0.below l y0.lt;have z1:=X.below l X.lt;have H1:=Qh (Y.out.belw l);have q1:=W.trans (l.mono W.size);obtain ⟨a0,a1,a2,a3⟩:=x1.c4;have m:=dJ hL;clear x0 y0 X W l Y;go_wp2_with fail;refine (Gn w1 A n c C p d D q e L H1.out m).mono ?_;rintro e' F ⟨A2,n2,c2,s,p2,d2,z,B,f2,rfl,k,o⟩;obtain rfl:n=n2:=by rw [<- k.bd.1,H1.out.bodies.1]
 have y2:=y1.below o y1.lt;have z2:=z1.below o z1.lt;have q2:=q1.trans (o.mono q1.size);have aS:=q1.size;have a5:w.heap.size+1+1<w1.heap.size:=z1.lt;have Q:=k.bd.row;have qa:=(ae F).alloc Qr (.cells #[.string ⟨#[]⟩,.slice none 0 0,.slice none 0 0,.slice none 0 0] 26);have E:=(ae F).alloc Qr (.cells #[aa L.name,.slice A2 n c2,.slice s p2 d2,.slice z B f2] 26);have K:=Blk.new F 26 #[aa L.name,.slice A2 n c2,.slice s p2 d2,.slice z B f2];have BD:=Qh (Q.blw E);have JT:=Qh (k.jt.blw E);have DR:=Qh (k.dr.blw E);have y3:=y2.below E y2.lt;have z3:=z2.below E z2.lt;have q3:=q2.trans (E.mono q2.size);have an:=K.lt;have aT:=z2.lt;have ac:n<=1000:=by rw [<- k.bd.1];exact m.nb
 have a7:w1.heap.size<=F.heap.size:=o.size;clear x1 y1 z1 q1 o a0 a1 a2 a3 k Q y2 z2 q2 qa m H1;go_wp2_with fail;generalize (F.alloc (.cells #[aa L.name,.slice A2 n c2,.slice s p2 d2,.slice z B f2] 26))=w3 at K BD JT DR y3 z3 q3 an E ⊢;refine (Aw w3 A2 n c2 L.bodies BD.out.bds ac (w.heap.size+1) old (show w3.cell? ⟨w.heap.size+1,0,none⟩=some (aa old) from by simpa using y3.cell 0)).mono ?_;rintro e' H ⟨rfl,g⟩;have f:=Qh (BD.out.blw g);have V:=Qh (JT.out.blw g);have U:=Qh (DR.out.blw g);have G:=K.below g K.lt;have J:=z3.below g z3.lt;have q4:=q3.trans (g.mono q3.size);clear BD JT DR y3 E K z3 q3 g;obtain ⟨b0,b1,b2,b3⟩:=J.c4;obtain ⟨f0,f1,T,f3⟩:=J.f4;rcases HR.out with ⟨hi,rfl,rfl⟩ | ⟨i,b,hi,hb,hc⟩
 ·rw [hi]
  go_wp2_with fail;refine bodyPost_ret (v:=.tuple #[.agg #[.string ⟨#[]⟩,.slice none 0 0,.slice none 0 0,.slice none 0 0],.iface 58 (.int .i64 5)]) (by simp [results,Tryz.results36,go_sem, *] <;> trivial) rfl ?_;rw [eVp (show (5:Int)≠0 by decide)];exact ⟨_,_,_,_,_,_,_,_,_,rfl,LkY.zero _ _,dd q4 (by omega) _ _ _ _⟩
 rw [hi];have al:i<n:=by rw [<- f.out.1];exact (List.getElem?_eq_some_iff.1 hb).1
 obtain ⟨a,rfl⟩:=f.out.some_ hb;obtain ⟨k1,v1,k2⟩:=f.out.cell (j:=0) al (by decide);have k1:H.frozen? ⟨a,i*2,none⟩=false:=k1;have k2:H.cell? ⟨a,i*2,none⟩=some v1:=k2;obtain ⟨s1,s2,s3,s4⟩:=f.out.set (j:=0) (u:=aa new) (a':=(⟨new,b.pts⟩:aj)) hb (by decide) rfl (fun cs b t x=>x.tch t (by decide)) (fun cs ⟨A,n,c,h0,h1,h2⟩=>⟨A,n,c,by rw [h0];rfl,h1,ad.out⟩)
 have R:F.heap.size≠a:=fun e=>by
  obtain ⟨_,xs,ho,_⟩:=f.out;exact ho.neb G (by decide) (by rw [e];rfl)
 have I:w.heap.size+1+1≠a:=fun e=>by
  obtain ⟨_,xs,ho,_⟩:=f.out;exact ho.neb J (by decide) (by rw [e];rfl)
 have x5:Blk (H.setCell ⟨a,i*2,none⟩ (aa new)) F.heap.size 26 #[aa L.name,.slice (some ⟨a,0,none⟩) n c2,.slice s p2 d2,.slice z B f2]:=G.far (p:=⟨a,i*2+0,none⟩) R (aa new);have Z:Blk (H.setCell ⟨a,i*2,none⟩ (aa new)) (w.heap.size+1+1) 26 #[.string ⟨#[]⟩,.slice none 0 0,.slice none 0 0,.slice none 0 0]:=J.far (p:=⟨a,i*2+0,none⟩) I (aa new);have q5:Below w.heap.size w (H.setCell ⟨a,i*2,none⟩ (aa new)):=q4.setCell (p:=⟨a,i*2+0,none⟩) (by show w.heap.size<=a;omega) (aa new);have N:LkY 130 (H.setCell ⟨a,i*2,none⟩ (aa new)) (some ⟨a,0,none⟩) n c2 s p2 d2 z B f2 (kF L i b new):=nG s1 (V.out.tch s2 (by decide) (fun _ _ x=>x)) (U.out.tch s2 (by decide) (fun _ _ x=>x)) (show NmL L.name from by have:=(da hL).ok.name;show L.name.length<_;omega);have y:=Qh N;have c0:=G.cell 0;have c1:=G.cell 1;have S:=G.cell 2;have c3:=G.cell 3;have a6:((i:Int)<0)=False:=by simp
 have a4:((i:Int)<(n:Int)):=by omega
 have HC:=Qh hc;clear hi hb hc s1 s2 N b0 b1 b2 b3 f0 f1 T f3;go_wp2_with fail;clear c0 c1 S c3 k1 k2 G J q4 f V U;generalize (H.setCell ⟨a,i*2,none⟩ (aa new))=w5 at x5 Z q5 y ⊢;have P:Calls Tryz.prog 31 #[.agg #[aa L.name,.slice (some ⟨a,0,none⟩) n c2,.slice s p2 d2,.slice z B f2]] w5 (ax w5 (aV (aG (kF L i b new)))):=dz w5 (some ⟨a,0,none⟩) n c2 s p2 d2 z B f2 (kF L i b new) 130 y.out.out (by decide) (by decide) _ rfl;refine P.mono ?_;rintro e' w6 ⟨rfl,r⟩;clear P;have x6:=x5.below r x5.lt;have z6:=Z.below r Z.lt;have q6:=q5.trans (r.mono q5.size);have ab:=Qh (y.out.blw r);obtain ⟨b0,b1,b2,b3⟩:=z6.c4;obtain ⟨f0,f1,T,f3⟩:=z6.f4;obtain ⟨c0,c1,S,c3⟩:=x6.c4;have aC:=x6.lt;have ao:¬ F.heap.size=w.heap.size+1+1:=by omega
 clear x5 Z q5 y r;rcases HC.out with ⟨M,rfl,rfl⟩ | ⟨M,rfl,rfl⟩
 ·rw [eVp M]
  have HX:=Qh M;clear M;go_wp2_with fail;refine bodyPost_ret (v:=.tuple #[.agg #[.string ⟨#[]⟩,.slice none 0 0,.slice none 0 0,.slice none 0 0],.iface 58 (.int .i64 (aG (kF L i b new)))]) (by simp [results,Tryz.results36,go_sem, *] <;> trivial) rfl ?_;rw [eVp HX.out];exact ⟨_,_,_,_,_,_,_,_,_,rfl,LkY.zero _ _,dd q6 (by omega) _ _ _ _⟩
 rw [M,aO];go_wp2_with fail;have t6:=lp z6 ⟨rfl,rfl,rfl,rfl⟩ (aa L.name) (.slice (some ⟨a,0,none⟩) n c2) (.slice s p2 d2) (.slice z B f2);refine bodyPost_ret (v:=.tuple #[.agg #[aa L.name,.slice (some ⟨a,0,none⟩) n c2,.slice s p2 d2,.slice z B f2],.nilIface]) (by simp [results,Tryz.results36,go_sem, *] <;> trivial) rfl ?_;exact ⟨_,_,_,_,_,_,_,_,_,rfl,ab.out.tch t6 (by decide) (by decide) (by decide) (by decide),dd q6 (by omega) _ _ _ _⟩
def eI {α:Type}(f:α->α) (l:List α) (i:Nat):List α:=(l.take i).map f++l.drop i
section
variable {α:Type}{f:α->α}{l:List α}{i:Nat}{a:α}
theorem Db:eI f l 0=l:=by simp [eI]
theorem vN (h:l.length<=i):eI f l i=l.map f:=by unfold eI;rw [List.take_of_length_le h,List.drop_eq_nil_of_le h,List.append_nil]
theorem iJ (h:l[i]?=some a):(eI f l i)[i]?=some a:=by
 have b:i<l.length:=(List.getElem?_eq_some_iff.1 h).1;unfold eI;rw [List.getElem?_append_right (by simp;omega)];simp [List.length_take,Nat.min_eq_left (Nat.le_of_lt b),h]
theorem kG (h:l[i]?=some a):(eI f l i).set i (f a)=eI f l (i+1):=by
 obtain ⟨b,d⟩:=List.getElem?_eq_some_iff.1 h;have hd:l.drop i=a::l.drop (i+1):=by rw [List.drop_eq_getElem_cons b,d]
 have c:l.take (i+1)=l.take i++[a]:=by rw [List.take_add_one,h];rfl
 unfold eI;rw [hd,c,List.set_append_right _ _ (by simp;omega)];simp [List.length_take,Nat.min_eq_left (Nat.le_of_lt b)]
theorem AU (h:l[i]?=some a) (b:f a=a):eI f l i=eI f l (i+1):=by
 have k:=kG (f:=f) h;rw [b] at k;rw [<- k]
 exact (List.ext_getElem? fun j=>by
  rw [List.getElem?_set];by_cases hj:i=j
  ·subst hj
   rw [if_pos rfl,iJ h];have d:i<l.length:=(List.getElem?_eq_some_iff.1 h).1;have c:i<(eI f l i).length:=by unfold eI;simp;omega
   simp [c]
  rw [if_neg hj])
theorem mf {n:Nat}(h:(eI f l i).length=n):l.length=n:=by
 unfold eI at h;simp only [List.length_append,List.length_map,List.length_take,List.length_drop] at h;omega
end
def shI (k:Nat) (x:Int):Int:=if (k:Int)<x then x-1 else x
def shJ (k:Nat) (j:aF):aF:=⟨j.name,j.kind,shI k j.a,j.point,shI k j.b,j.on,j.to_⟩
def shD (k:Nat) (d:aE):aE:=⟨d.name,shI k d.body⟩
def CI (L:ag) (k:Nat):ag:=⟨L.name,L.bodies.eraseIdx k,L.joints.map (shJ k),L.drivers.map (shD k)⟩
def ui (L:ag) (nm:List UInt8) (x:Int) (L':ag):Prop:=(gI (L.bodies.map aj.name) nm=-1/\x=5/\L'=L0)\/(gI (L.bodies.map aj.name) nm=(0:Nat)/\x=7/\L'=L0)\/∃ k:Nat,0<k/\k<L.bodies.length/\gI (L.bodies.map aj.name) nm=(k:Nat) /\
  (((∃ j∈L.joints,j.a=k\/j.b=k)/\x=11/\L'=L0)\/((∀ j∈L.joints,j.a≠k/\j.b≠k)/\(((∃ d∈L.drivers,d.body=k)/\x=11/\L'=L0)\/((∀ d∈L.drivers,d.body≠k)/\x=0/\L'=CI L k))))
theorem EE (L:ag) (nm:List UInt8):∃ x L',ui L nm x L':=by
 rcases idxN_cases (L.bodies.map aj.name) nm with h | ⟨k,h,m⟩
 ·exact ⟨5,L0,.inl ⟨h,rfl,rfl⟩⟩
 have g:k<L.bodies.length:=by have:=(List.getElem?_eq_some_iff.1 m).1;simpa using this
 rcases Nat.eq_zero_or_pos k with e | e
 ·subst e;exact ⟨7,L0,.inr (.inl ⟨h,rfl,rfl⟩)⟩
 by_cases i:∃ j∈L.joints,j.a=k\/j.b=k
 ·exact ⟨11,L0,.inr (.inr ⟨k,e,g,h,.inl ⟨i,rfl,rfl⟩⟩)⟩
 have c:∀ j∈L.joints,j.a≠k/\j.b≠k:=fun j l=>⟨fun f=>i ⟨j,l,.inl f⟩,fun f=>i ⟨j,l,.inr f⟩⟩
 by_cases h2:∃ d∈L.drivers,d.body=k
 ·exact ⟨11,L0,.inr (.inr ⟨k,e,g,h,.inr ⟨c,.inl ⟨h2,rfl,rfl⟩⟩⟩)⟩
 exact ⟨0,_,.inr (.inr ⟨k,e,g,h,.inr ⟨c,.inr ⟨fun d hd f=>h2 ⟨d,hd,f⟩,rfl,rfl⟩⟩⟩)⟩
def AV (B:Nat) (w:World) (v:Value) (L:ag) (e:Ending) (w':World):Prop:=∃ A n c C p d D q f,e=.returned (.tuple #[.agg #[aa L.name,.slice A n c,.slice C p d,.slice D q f],v])/\LkY 130 w' A n c C p d D q f L/\Below B w w'
theorem BdC.ones {k:Nat}{w:World}{cs:List Value}{a:aj}(h:BdC k w cs a):∀ u∈cs,u.oneCell'=true:=by
 obtain ⟨A,n,c,d,_⟩:=h;subst d;intro u b;simp at b;rcases b with rfl | rfl <;> simp [Value.oneCell']
theorem set_at {α:Type}{l:List α}{i:Nat}{a b:α}(h:l[i]?=some a):(l.set i b)[i]?=some b:=List.getElem?_set_self (List.getElem?_eq_some_iff.1 h).1
structure RwX {α:Type}(T0:TypeId) (Pc:World->List Value->α->Prop) (s:Nat) (w:World) (B g n c:Nat) (l:List α) (w':World):Prop where
  row:ap T0 Pc s w' B (.slice (some ⟨g,0,none⟩) n c) n l
  tch:Tch (aW T0) w w'
  bel:Below B w w'
section
variable {α:Type}{T0:TypeId}{Pc:World->List Value->α->Prop}{s:Nat}{w wi w':World}{B g n c:Nat}{l:List α}
theorem RwX.refl (h:ap T0 Pc s wi B (.slice (some ⟨g,0,none⟩) n c) n l):RwX T0 Pc s wi B g n c l wi:=⟨h,Tch.refl _,Below.refl _ _⟩
theorem RwX.set {i j:Nat}{a a':α}{u:Value}(h:RwX T0 Pc s wi B g n c l w') (o:l[i]?=some a) (d:j<s) (m:noW u=true) (f:∀ w w' cs b,Pc w cs b->Pc w' cs b) (k:∀ w cs,Pc w cs a->Pc w (cs.set j u) a'):RwX T0 Pc s wi B g n c (l.set i a') (w'.setCell ⟨g,i*s+j,none⟩ u):=by
 obtain ⟨r,t,hB,_⟩:=h.row.set (a':=a') o d m (fun cs b _ y=>f _ _ cs b y) (fun cs y=>k _ cs y);exact ⟨r,h.tch.trans t,h.bel.setCell (p:=⟨g,i*s+j,none⟩) hB u⟩
theorem RwX.fin {β:Type}{T2:TypeId}{d:World->List Value->β->Prop}{k:Nat}{j v2:Value}{nb r x z:Nat}{p:List aj}{l2:List β}{h f:Array Value} [gS Pc] [gS d] (R:RwX T0 Pc s wi B g n c l w') (m:aW T0 51=false/\aW T0 56=false) (u:aW T0 T2=false) (o:aW T0 26=false) (bd:ap 51 (BdC 130) 2 wi B j nb p) (v:ap T2 d k wi B v2 r l2) (A:∀ w w' cs b,d w cs b->d w' cs b)
 (X:Blk wi x 26 h) (Z:Blk wi z 26 f) (q:Below B w wi) (hB:B<=w.heap.size) (cs:Array Value) :
 ap T0 Pc s (w'.alloc (.cells cs T0)) B (.slice (some ⟨g,0,none⟩) n c) n l/\ap 51 (BdC 130) 2 (w'.alloc (.cells cs T0)) B j nb p/\ap T2 d k (w'.alloc (.cells cs T0)) B v2 r l2/\Blk (w'.alloc (.cells cs T0)) x 26 h/\Blk (w'.alloc (.cells cs T0)) z 26 f/\Below B w (w'.alloc (.cells cs T0)):=by
 have a:Below w'.heap.size w' (w'.alloc (.cells cs T0)):=(ae _).alloc Qr _;have t:Blk w' x 26 h:=R.tch.2 _ _ _ _ X (.inl o);have i:Blk w' z 26 f:=R.tch.2 _ _ _ _ Z (.inl o);have q2:=q.trans R.bel;exact ⟨R.row.blw a,(bd.tch R.tch m.1 (fun _ _ y=>y.tch R.tch m.2)).blw a,(v.tch R.tch u (fun _ _ y=>A _ _ _ _ y)).blw a,t.below a t.lt,i.below a i.lt,q2.trans (a.mono (Nat.le_trans hB q2.size))⟩
end
theorem kH {x:Int}{k n:Nat}(h:(k:Int)<x) (a:x<n) (b:n<=1000):wrap64 (x-1)=x-1:=by unfold wrap64;omega
theorem AW (w:World) (B:Nat) (hB:B<=w.heap.size) (A:Option Addr) (n c:Nat) (C:Option Addr) (p d:Nat) (D:Option Addr) (q e:Nat) (L:ag) (h:CpO B w A n c C p d D q e L) (hL:aG L=0) (nm:List UInt8) (x:Int) (L':ag) (hR:ui L nm x L'):Calls Tryz.prog 44 #[.agg #[aa L.name,.slice A n c,.slice C p d,.slice D q e],aa nm] w (AV B w (aV x) L'):=by
 have x0:Blk (((w.alloc (.cells #[aa L.name,.slice A n c,.slice C p d,.slice D q e] 26)).alloc (.cells #[aa nm] 9)).alloc (.cells #[.string ⟨#[]⟩,.slice none 0 0,.slice none 0 0,.slice none 0 0] 26)) w.heap.size 26 #[aa L.name,.slice A n c,.slice C p d,.slice D q e]:=((Blk.new _ _ _).alloc _).alloc _;have y0:Blk (((w.alloc (.cells #[aa L.name,.slice A n c,.slice C p d,.slice D q e] 26)).alloc (.cells #[aa nm] 9)).alloc (.cells #[.string ⟨#[]⟩,.slice none 0 0,.slice none 0 0,.slice none 0 0] 26)) (w.heap.size+1) 9 #[aa nm]:=(ak _ _ _ (by simp)).alloc _;have z0:Blk (((w.alloc (.cells #[aa L.name,.slice A n c,.slice C p d,.slice D q e] 26)).alloc (.cells #[aa nm] 9)).alloc (.cells #[.string ⟨#[]⟩,.slice none 0 0,.slice none 0 0,.slice none 0 0] 26)) (w.heap.size+1+1) 26 #[.string ⟨#[]⟩,.slice none 0 0,.slice none 0 0,.slice none 0 0]:=ak _ _ _ (by simp);have q0:=(((ae w).alloc Qr (.cells #[aa L.name,.slice A n c,.slice C p d,.slice D q e] 26)).alloc (by simp) (.cells #[aa nm] 9)).alloc (by simp;omega) (.cells #[.string ⟨#[]⟩,.slice none 0 0,.slice none 0 0,.slice none 0 0] 26);have hF:=da hL;have cp:n<=8:=by rw [<- h.bd.1];exact hF.ok.nb
 have b6:p<=16:=by rw [<- h.jt.1];exact hF.ok.nj
 have cm:q<=2:=by rw [<- h.dr.1];exact hF.ok.nd
 have ca:L.bodies.length=n:=h.bd.1;have HF:=Qh hF;have BD:=Qh (h.bd.row.blw q0);have JT:=Qh (h.jt.blw q0);have DR:=Qh (h.dr.blw q0);have HR:=Qh hR;have bz:=Qh (show NmL L.name from by have:=hF.ok.name;show L.name.length<_;omega);have q0:=q0.mono hB;clear h hR hF hL;go_in;go_wp2_with fail;generalize (((w.alloc (.cells #[aa L.name,.slice A n c,.slice C p d,.slice D q e] 26)).alloc (.cells #[aa nm] 9)).alloc (.cells #[.string ⟨#[]⟩,.slice none 0 0,.slice none 0 0,.slice none 0 0] 26))=w0 at x0 y0 z0 q0 BD JT DR ⊢;refine (AA w0 A n c L.bodies BD.out.bds (by omega) (w.heap.size+1) nm (show w0.cell? ⟨w.heap.size+1,0,none⟩=some (aa nm) from by simpa using y0.cell 0)).mono ?_;rintro e' w1 ⟨rfl,S⟩;have a5:=Qh (BD.out.blw S);have bf:=Qh (JT.out.blw S);have a6:=Qh (DR.out.blw S);have x1:=x0.below S x0.lt;have z1:=z0.below S z0.lt;have q1:=q0.trans (S.mono (Nat.le_trans hB q0.size));clear BD JT DR y0 x0 z0 q0 S;obtain ⟨b0,b1,b2,b3⟩:=z1.c4;obtain ⟨f0,f1,ab,f3⟩:=z1.f4;rcases HR.out with ⟨hi,rfl,rfl⟩ | ⟨hi,rfl,rfl⟩ | ⟨k,cc,b8,hi,hc⟩
 ·rw [hi]
  go_wp2_with fail;refine bodyPost_ret (v:=.tuple #[.agg #[.string ⟨#[]⟩,.slice none 0 0,.slice none 0 0,.slice none 0 0],.iface 58 (.int .i64 5)]) (by simp [results,Tryz.results44,go_sem, *] <;> trivial) rfl ?_;rw [eVp (show (5:Int)≠0 by decide)];exact ⟨_,_,_,_,_,_,_,_,_,rfl,LkY.zero _ _,dd q1 (by omega) _ _ _ _⟩
 ·rw [hi]
  go_wp2_with fail;refine bodyPost_ret (v:=.tuple #[.agg #[.string ⟨#[]⟩,.slice none 0 0,.slice none 0 0,.slice none 0 0],.iface 58 (.int .i64 7)]) (by simp [results,Tryz.results44,go_sem, *] <;> trivial) rfl ?_;rw [eVp (show (7:Int)≠0 by decide)];exact ⟨_,_,_,_,_,_,_,_,_,rfl,LkY.zero _ _,dd q1 (by omega) _ _ _ _⟩
 rw [hi];have HC:=Qh hc;have X1:=Qh x1;have Z1:=Qh z1;have cv:((k:Int)<0)=False:=by simp
 have cb:((k:Int)=0)=False:=by simp;omega
 have cu:((k:Int)==0)=false:=by simp;omega
 obtain ⟨a0,a1,a2,a3⟩:=x1.c4;clear x1 z1 hi hc HR b0 b1 b2 b3 f0 f1 ab f3;go_wp2_with fail;clear a0 a1 a2 a3;go_loopw [28] (fun iv wr=>∃ i:Nat,iv=.int .i64 (i:Nat)/\i<=p/\Hid (∀ j,j<i->∀ a,L.joints[j]?=some a->a.a≠k/\a.b≠k)/\Hid (ap 51 (BdC 130) 2 wr B (.slice A n c) n L.bodies)/\Hid (ap 81 JtC 7 wr B (.slice C p d) p (eI (shJ k) L.joints i))/\Hid (ap 86 DrC 2 wr B (.slice D q e) q L.drivers)/\Hid (Blk wr w.heap.size 26 #[aa L.name,.slice A n c,.slice C p d,.slice D q e])/\Hid (Blk wr (w.heap.size+1+1) 26 #[.string ⟨#[]⟩,.slice none 0 0,.slice none 0 0,.slice none 0 0])/\Below B w wr) (fun iv _=>p-(intOf iv).toNat)
 case atStart=>exact ⟨0,rfl,Nat.zero_le _,Qh fun j T=>absurd T (Nat.not_lt_zero _),a5,(by rw [Db];exact bf),a6,X1,Z1,q1⟩
 case round =>
  obtain ⟨i,rfl,hi,NO,M,F,G,U,V,qi⟩:=hrel;rename World=>wi;rcases Nat.lt_or_ge i p with bv | b4
  ·have ad:((i:Int)<(p:Int))=True:=by simp;omega
   have b5:((i:Int)<(p:Int)):=by omega
   have aS:i<L.joints.length:=by have:=mf F.out.1;omega
   obtain ⟨a,ha⟩:∃ a,L.joints[i]?=some a:=⟨_,List.getElem?_eq_getElem aS⟩;have K:=Qh ha;obtain ⟨o,cs,rfl,an,m⟩:=F.out.at_ (iJ ha);obtain ⟨rfl,bu⟩:=an;have d0:wi.cell? ⟨o,i*7,none⟩=some (aa a.name):=m 0 _ rfl;have d1:wi.cell? ⟨o,i*7+1,none⟩=some (.int .i64 a.kind):=m 1 _ rfl;have d2:wi.cell? ⟨o,i*7+2,none⟩=some (.int .i64 a.a):=m 2 _ rfl;have d3:wi.cell? ⟨o,i*7+3,none⟩=some (.int .i64 a.point):=m 3 _ rfl;have d4:wi.cell? ⟨o,i*7+4,none⟩=some (.int .i64 a.b):=m 4 _ rfl;have d5:wi.cell? ⟨o,i*7+5,none⟩=some (.int .i64 a.on):=m 5 _ rfl;have d6:wi.cell? ⟨o,i*7+6,none⟩=some (.int .i64 a.to_):=m 6 _ rfl
   obtain ⟨la,lb⟩:a.a<(n:Int)/\a.b<(n:Int):=by
    obtain ⟨ja,jb,_,_,_,_,_,_,ea,eb,_,_,aC,bx,_⟩:=(HF.out.ok.joint a (List.mem_of_getElem? ha)).2;have Q:=(List.getElem?_eq_some_iff.1 aC).1;have h2:=(List.getElem?_eq_some_iff.1 bx).1;omega
   obtain ⟨k1,_⟩:=F.out.cell (j:=2) (i:=i) (by omega) (by decide);obtain ⟨k2,_⟩:=F.out.cell (j:=4) (i:=i) (by omega) (by decide);have hg:o<wi.heap.size:=World.block_lt_of_cell? wi _ d0;have bn:¬ o=wi.heap.size:=by omega
   have hx:=U.out.lt;have bl:¬ w.heap.size=wi.heap.size:=by omega
   have hz:=V.out.lt;have bk:¬ w.heap.size+1+1=wi.heap.size:=by omega
   have X:¬ o=w.heap.size:=fun e=>F.out.neb U.out (by decide) (by rw [<- e];rfl)
   have a9:¬ w.heap.size=o:=fun e=>X e.symm
   obtain ⟨a0,a1,a2,a3⟩:=U.out.c4;obtain ⟨b0,b1,b2,b3⟩:=V.out.c4;obtain ⟨f0,f1,ab,f3⟩:=V.out.f4;clear m ha;by_cases g:a.a=(k:Int)
   ·have u1:(a.a=(k:Int))=True:=eq_true g
    have v1:(a.a==(k:Int))=true:=by simpa using g
    have Z:=Qh (show x=11/\L'=L0 from by
     rcases HC.out with ⟨_,e1,e2⟩ | ⟨Q,_⟩
     ·exact ⟨e1,e2⟩
     exact absurd (Q a (List.mem_of_getElem? K.out)) (by intro hh;exact hh.1 g))
    have HX:=Qh (And.intro g g);clear g;go_wp2_with fail;refine bodyPost_ret (v:=.tuple #[.agg #[.string ⟨#[]⟩,.slice none 0 0,.slice none 0 0,.slice none 0 0],.iface 58 (.int .i64 11)]) (by simp [results,Tryz.results44,go_sem, *] <;> trivial) rfl ?_;rw [Z.out.1,Z.out.2,eVp (show (11:Int)≠0 by decide)];exact ⟨_,_,_,_,_,_,_,_,_,rfl,LkY.zero _ _,(dd qi (by omega) _ _ _ _).alloc (by simp;omega) _⟩
   have E:a.a≠(k:Int):=g;by_cases s:a.b=(k:Int)
   ·have u1:(a.a=(k:Int))=False:=eq_false E
    have v1:(a.a==(k:Int))=false:=by simpa using E
    have u2:(a.b=(k:Int))=True:=eq_true s;have v2:(a.b==(k:Int))=true:=by simpa using s
    have Z:=Qh (show x=11/\L'=L0 from by
     rcases HC.out with ⟨_,e1,e2⟩ | ⟨Q,_⟩
     ·exact ⟨e1,e2⟩
     exact absurd (Q a (List.mem_of_getElem? K.out)) (by intro hh;exact hh.2 s))
    clear s;go_wp2_with fail;refine bodyPost_ret (v:=.tuple #[.agg #[.string ⟨#[]⟩,.slice none 0 0,.slice none 0 0,.slice none 0 0],.iface 58 (.int .i64 11)]) (by simp [results,Tryz.results44,go_sem, *] <;> trivial) rfl ?_;rw [Z.out.1,Z.out.2,eVp (show (11:Int)≠0 by decide)];exact ⟨_,_,_,_,_,_,_,_,_,rfl,LkY.zero _ _,(dd qi (by omega) _ _ _ _).alloc (by simp;omega) _⟩
   have J:a.b≠(k:Int):=s;clear g s;have O:=Qh fun j T b hb=>(Nat.eq_or_lt_of_le (Nat.le_of_lt_succ T)).elim (fun e=>by subst e;rw [K.out] at hb;injection hb with hb;rw [<- hb];exact ⟨E,J⟩) (fun e=>NO.out j e b hb)
   have P:∀ {w':World},RwX 81 JtC 7 wi B o p d (eI (shJ k) L.joints (i+1)) w'->_:=fun {w'} R=>by
    obtain ⟨f1,f2,f3,f4,f5,f6⟩:=R.fin (w:=w) (by decide) (by decide) (by decide) M.out G.out (fun _ _ _ _ y=>y) U.out V.out qi hB (#[aa a.name,.int .i64 a.kind,.int .i64 a.a,.int .i64 a.point,.int .i64 a.b,.int .i64 a.on,.int .i64 a.to_]);exact And.intro (Qh f2) (And.intro (Qh f1) (And.intro (Qh f3) (And.intro (Qh f4) (And.intro (Qh f5) f6))))
   by_cases g:(k:Int)<a.a
   ·by_cases s:(k:Int)<a.b
    ·have u1:(a.a=(k:Int))=False:=eq_false E
     have v1:(a.a==(k:Int))=false:=by simpa using E
     have s1:((k:Int)<a.a)=True:=eq_true g;have t1:wrap64 (a.a-1)=a.a-1:=kH g la (by omega);have z:shI k a.a=a.a-1:=if_pos g;have u2:(a.b=(k:Int))=False:=eq_false J;have v2:(a.b==(k:Int))=false:=by simpa using J
     have s2:((k:Int)<a.b)=True:=eq_true s;have t2:wrap64 (a.b-1)=a.b-1:=kH s lb (by omega);have I:shI k a.b=a.b-1:=if_pos s;have H:shJ k a=⟨a.name,a.kind,a.a-1,a.point,a.b-1,a.on,a.to_⟩:=by unfold shJ;rw [z,I]
     have R:RwX 81 JtC 7 wi B o p d (eI (shJ k) L.joints (i+1)) ((wi.setCell ⟨o,i*7+2,none⟩ (.int .i64 (a.a-1))).setCell ⟨o,i*7+4,none⟩ (.int .i64 (a.b-1))):=by have r:=((RwX.refl F.out).set (i:=i) (j:=2) (u:=.int .i64 (a.a-1)) (a':=⟨a.name,a.kind,a.a-1,a.point,a.b,a.on,a.to_⟩) (iJ K.out) (by decide) rfl (fun _ _ _ _ y=>y) (fun _ cs ⟨y,y2⟩=>⟨by rw [y];rfl,y2⟩)).set (i:=i) (j:=4) (u:=.int .i64 (a.b-1)) (a':=⟨a.name,a.kind,a.a-1,a.point,a.b-1,a.on,a.to_⟩) (set_at (iJ K.out)) (by decide) rfl (fun _ _ _ _ y=>y) (fun _ cs ⟨y,y2⟩=>⟨by rw [y];rfl,y2⟩);rw [List.set_set] at r;rw [<- kG K.out,H];exact r
     go_wp2_with fail;go_roundw
     case rel=>exact ⟨i+1,by go_num,by omega,O,P R⟩
     case measure=>simp [intOf];omega
    have u1:(a.a=(k:Int))=False:=eq_false E;have v1:(a.a==(k:Int))=false:=by simpa using E
    have s1:((k:Int)<a.a)=True:=eq_true g;have t1:wrap64 (a.a-1)=a.a-1:=kH g la (by omega);have z:shI k a.a=a.a-1:=if_pos g;have u2:(a.b=(k:Int))=False:=eq_false J;have v2:(a.b==(k:Int))=false:=by simpa using J
    have s2:((k:Int)<a.b)=False:=eq_false s;have I:shI k a.b=a.b:=if_neg s;have H:shJ k a=⟨a.name,a.kind,a.a-1,a.point,a.b,a.on,a.to_⟩:=by unfold shJ;rw [z,I]
    have R:RwX 81 JtC 7 wi B o p d (eI (shJ k) L.joints (i+1)) (wi.setCell ⟨o,i*7+2,none⟩ (.int .i64 (a.a-1))):=by have r:=(RwX.refl F.out).set (i:=i) (j:=2) (u:=.int .i64 (a.a-1)) (a':=⟨a.name,a.kind,a.a-1,a.point,a.b,a.on,a.to_⟩) (iJ K.out) (by decide) rfl (fun _ _ _ _ y=>y) (fun _ cs ⟨y,y2⟩=>⟨by rw [y];rfl,y2⟩);rw [<- kG K.out,H];exact r
    go_wp2_with fail;go_roundw
    case rel=>exact ⟨i+1,by go_num,by omega,O,P R⟩
    case measure=>simp [intOf];omega
   by_cases s:(k:Int)<a.b
   ·have u1:(a.a=(k:Int))=False:=eq_false E
    have v1:(a.a==(k:Int))=false:=by simpa using E
    have s1:((k:Int)<a.a)=False:=eq_false g;have z:shI k a.a=a.a:=if_neg g;have u2:(a.b=(k:Int))=False:=eq_false J;have v2:(a.b==(k:Int))=false:=by simpa using J
    have s2:((k:Int)<a.b)=True:=eq_true s;have t2:wrap64 (a.b-1)=a.b-1:=kH s lb (by omega);have I:shI k a.b=a.b-1:=if_pos s;have H:shJ k a=⟨a.name,a.kind,a.a,a.point,a.b-1,a.on,a.to_⟩:=by unfold shJ;rw [z,I]
    have R:RwX 81 JtC 7 wi B o p d (eI (shJ k) L.joints (i+1)) (wi.setCell ⟨o,i*7+4,none⟩ (.int .i64 (a.b-1))):=by have r:=(RwX.refl F.out).set (i:=i) (j:=4) (u:=.int .i64 (a.b-1)) (a':=⟨a.name,a.kind,a.a,a.point,a.b-1,a.on,a.to_⟩) (iJ K.out) (by decide) rfl (fun _ _ _ _ y=>y) (fun _ cs ⟨y,y2⟩=>⟨by rw [y];rfl,y2⟩);rw [<- kG K.out,H];exact r
    go_wp2_with fail;go_roundw
    case rel=>exact ⟨i+1,by go_num,by omega,O,P R⟩
    case measure=>simp [intOf];omega
   have u1:(a.a=(k:Int))=False:=eq_false E;have v1:(a.a==(k:Int))=false:=by simpa using E
   have s1:((k:Int)<a.a)=False:=eq_false g;have z:shI k a.a=a.a:=if_neg g;have u2:(a.b=(k:Int))=False:=eq_false J;have v2:(a.b==(k:Int))=false:=by simpa using J
   have s2:((k:Int)<a.b)=False:=eq_false s;have I:shI k a.b=a.b:=if_neg s;have H:shJ k a=⟨a.name,a.kind,a.a,a.point,a.b,a.on,a.to_⟩:=by unfold shJ;rw [z,I]
   have al:shJ k a=a:=H;have R:RwX 81 JtC 7 wi B o p d (eI (shJ k) L.joints (i+1)) wi:=by rw [<- AU K.out al];exact RwX.refl F.out
   go_wp2_with fail;go_roundw
   case rel=>exact ⟨i+1,by go_num,by omega,O,P R⟩
   case measure=>simp [intOf];omega
  have ad:((i:Int)<(p:Int))=False:=by simp;omega
  obtain rfl:p=i:=by omega
  have a4:=M;have ao:=Qh (show ap 81 JtC 7 wi B (.slice C p d) p (L.joints.map (shJ k)) from by rw [<- vN (f:=shJ k) (i:=p) (l:=L.joints) (by have:=mf F.out.1;omega)];exact F.out);have bb:=G;have X4:=U;have Z4:=V;have q4:=qi
  have NJ:=Qh (show ∀ j∈L.joints,j.a≠k/\j.b≠k from fun j T=>by
   obtain ⟨t,ht⟩:=List.mem_iff_getElem?.1 T
   exact NO.out t (by have Q:=(List.getElem?_eq_some_iff.1 ht).1;have:=ao.out.1;rw [List.length_map] at this;omega) j ht)
  clear M F G U V qi NO a5 bf a6 X1 Z1 q1;obtain ⟨a0,a1,a2,a3⟩:=X4.out.c4;go_wp2_with fail;clear a0 a1 a2 a3;go_loopw [75] (fun iv wr=>∃ i:Nat,iv=.int .i64 (i:Nat)/\i<=q/\Hid (∀ j,j<i->∀ a,L.drivers[j]?=some a->a.body≠k)/\Hid (ap 51 (BdC 130) 2 wr B (.slice A n c) n L.bodies)/\Hid (ap 81 JtC 7 wr B (.slice C p d) p (L.joints.map (shJ k)))/\Hid (ap 86 DrC 2 wr B (.slice D q e) q (eI (shD k) L.drivers i))/\Hid (Blk wr w.heap.size 26 #[aa L.name,.slice A n c,.slice C p d,.slice D q e])/\Hid (Blk wr (w.heap.size+1+1) 26 #[.string ⟨#[]⟩,.slice none 0 0,.slice none 0 0,.slice none 0 0])/\Below B w wr) (fun iv _=>q-(intOf iv).toNat)
  case atStart=>exact ⟨0,rfl,Nat.zero_le _,Qh fun j T=>absurd T (Nat.not_lt_zero _),a4,ao,(by rw [Db];exact bb),X4,Z4,q4⟩
  case round =>
   obtain ⟨i,rfl,hi,NO,M,F,G,U,V,qi⟩:=hrel;rename World=>wi;rcases Nat.lt_or_ge i q with bv | b4
   ·have ad:((i:Int)<(q:Int))=True:=by simp;omega
    have b5:((i:Int)<(q:Int)):=by omega
    have aS:i<L.drivers.length:=by have:=mf G.out.1;omega
    obtain ⟨a,ha⟩:∃ a,L.drivers[i]?=some a:=⟨_,List.getElem?_eq_getElem aS⟩;have K:=Qh ha;obtain ⟨o,cs,rfl,an,m⟩:=G.out.at_ (iJ ha);obtain ⟨rfl,bu⟩:=an;have d0:wi.cell? ⟨o,i*2,none⟩=some (aa a.name):=m 0 _ rfl;have d1:wi.cell? ⟨o,i*2+1,none⟩=some (.int .i64 a.body):=m 1 _ rfl
    have la:a.body<(n:Int):=by
     obtain ⟨_,jb,_,ea,aC⟩:=HF.out.ok.driver a (List.mem_of_getElem? ha);have Q:=(List.getElem?_eq_some_iff.1 aC).1;omega
    obtain ⟨k1,_⟩:=G.out.cell (j:=1) (i:=i) (by omega) (by decide);have hg:o<wi.heap.size:=World.block_lt_of_cell? wi _ d0;have bn:¬ o=wi.heap.size:=by omega
    have hx:=U.out.lt;have bl:¬ w.heap.size=wi.heap.size:=by omega
    have hz:=V.out.lt;have bk:¬ w.heap.size+1+1=wi.heap.size:=by omega
    have X:¬ o=w.heap.size:=fun e=>G.out.neb U.out (by decide) (by rw [<- e];rfl)
    have a9:¬ w.heap.size=o:=fun e=>X e.symm
    obtain ⟨a0,a1,a2,a3⟩:=U.out.c4;obtain ⟨b0,b1,b2,b3⟩:=V.out.c4;obtain ⟨f0,f1,ab,f3⟩:=V.out.f4;clear m ha;by_cases g:a.body=(k:Int)
    ·have u1:(a.body=(k:Int))=True:=eq_true g
     have v1:(a.body==(k:Int))=true:=by simpa using g
     have Z:=Qh (show x=11/\L'=L0 from by
      rcases HC.out with ⟨_,e1,e2⟩ | ⟨_,⟨_,e1,e2⟩ | ⟨Q,_⟩⟩
      ·exact ⟨e1,e2⟩
      ·exact ⟨e1,e2⟩
      exact absurd (Q a (List.mem_of_getElem? K.out)) (by intro hh;exact hh g))
     clear g;go_wp2_with fail;refine bodyPost_ret (v:=.tuple #[.agg #[.string ⟨#[]⟩,.slice none 0 0,.slice none 0 0,.slice none 0 0],.iface 58 (.int .i64 11)]) (by simp [results,Tryz.results44,go_sem, *] <;> trivial) rfl ?_;rw [Z.out.1,Z.out.2,eVp (show (11:Int)≠0 by decide)];exact ⟨_,_,_,_,_,_,_,_,_,rfl,LkY.zero _ _,(dd qi (by omega) _ _ _ _).alloc (by simp;omega) _⟩
    have E:a.body≠(k:Int):=g;clear g;have O:=Qh fun j T b hb=>(Nat.eq_or_lt_of_le (Nat.le_of_lt_succ T)).elim (fun e=>by subst e;rw [K.out] at hb;injection hb with hb;rw [<- hb];exact E) (fun e=>NO.out j e b hb)
    have P:∀ {w':World},RwX 86 DrC 2 wi B o q e (eI (shD k) L.drivers (i+1)) w'->_:=fun {w'} R=>by
     obtain ⟨f1,f2,f3,f4,f5,f6⟩:=R.fin (w:=w) (by decide) (by decide) (by decide) M.out F.out (fun _ _ _ _ y=>y) U.out V.out qi hB (#[aa a.name,.int .i64 a.body]);exact And.intro (Qh f2) (And.intro (Qh f3) (And.intro (Qh f1) (And.intro (Qh f4) (And.intro (Qh f5) f6))))
    by_cases g:(k:Int)<a.body
    ·have u1:(a.body=(k:Int))=False:=eq_false E
     have v1:(a.body==(k:Int))=false:=by simpa using E
     have s1:((k:Int)<a.body)=True:=eq_true g;have t1:wrap64 (a.body-1)=a.body-1:=kH g la (by omega);have z:shI k a.body=a.body-1:=if_pos g;have H:shD k a=⟨a.name,a.body-1⟩:=by unfold shD;rw [z]
     have R:RwX 86 DrC 2 wi B o q e (eI (shD k) L.drivers (i+1)) (wi.setCell ⟨o,i*2+1,none⟩ (.int .i64 (a.body-1))):=by have r:=(RwX.refl G.out).set (i:=i) (j:=1) (u:=.int .i64 (a.body-1)) (a':=⟨a.name,a.body-1⟩) (iJ K.out) (by decide) rfl (fun _ _ _ _ y=>y) (fun _ cs ⟨y,y2⟩=>⟨by rw [y];rfl,y2⟩);rw [<- kG K.out,H];exact r
     go_wp2_with fail;go_roundw
     case rel=>exact ⟨i+1,by go_num,by omega,O,P R⟩
     case measure=>simp [intOf];omega
    have u1:(a.body=(k:Int))=False:=eq_false E;have v1:(a.body==(k:Int))=false:=by simpa using E
    have s1:((k:Int)<a.body)=False:=eq_false g;have z:shI k a.body=a.body:=if_neg g;have H:shD k a=⟨a.name,a.body⟩:=by unfold shD;rw [z]
    have al:shD k a=a:=H;have R:RwX 86 DrC 2 wi B o q e (eI (shD k) L.drivers (i+1)) wi:=by rw [<- AU K.out al];exact RwX.refl G.out
    go_wp2_with fail;go_roundw
    case rel=>exact ⟨i+1,by go_num,by omega,O,P R⟩
    case measure=>simp [intOf];omega
   have ad:((i:Int)<(q:Int))=False:=by simp;omega
   obtain rfl:q=i:=by omega
   have b9:L.drivers.length=q:=mf G.out.1;have N:=M;have ac:=F;have aT:=Qh (show ap 86 DrC 2 wi B (.slice D q e) q (L.drivers.map (shD k)) from by rw [<- vN (f:=shD k) (i:=q) (l:=L.drivers) (by omega)];exact G.out);have X5:=U;have Z5:=V;have q5:=qi
   have ND:=Qh (show ∀ j∈L.drivers,j.body≠k from fun j T=>by
    obtain ⟨t,ht⟩:=List.mem_iff_getElem?.1 T
    exact NO.out t (by have Q:=(List.getElem?_eq_some_iff.1 ht).1;omega) j ht)
   have Z:=Qh (show x=0/\L'=CI L k from by
    rcases HC.out with ⟨⟨j,T,Q⟩,_⟩ | ⟨_,⟨⟨d,hd,Q⟩,_⟩ | ⟨_,e1,e2⟩⟩
    ·exact absurd Q (fun Q=>Q.elim (NJ.out j T).1 (NJ.out j T).2)
    ·exact absurd Q (ND.out d hd)
    exact ⟨e1,e2⟩)
   clear M F G U V qi NO a4 ao bb X4 Z4 q4;rename_i ck;have br:k<L.bodies.length:=by omega
   obtain ⟨o,rfl⟩:=N.out.some_ (List.getElem?_eq_getElem br);obtain ⟨a0,a1,a2,a3⟩:=X5.out.c4;go_wp2_with fail;clear a0 a1 a2 a3;refine (Ar wi B o n c k L.bodies N.out (fun w cs a h=>h.ones) (by omega) (by omega) (fun w' cs a t h=>h.tch t (by decide))).mono ?_;rintro e' w6 ⟨rfl,bg,W⟩
   obtain ⟨b7,Y⟩:∃ cur,Blk wi o 51 cur:=by
    obtain ⟨_,xs,ho,_⟩:=N.out;obtain ⟨_,cur,hc,_⟩:=ho.at_ rfl;exact ⟨cur,hc⟩
   have ch:B<=o:=by
    obtain ⟨_,xs,ho,_⟩:=N.out;exact (ho.at_ rfl).1
   have x6:=X5.out.grw W (fun h=>N.out.neb X5.out (by decide) (by rw [h];rfl));have z6:=Z5.out.grw W (fun h=>N.out.neb Z5.out (by decide) (by rw [h];rfl));have a8:=ac.out.gr W (fun y hy h=>ac.out.neb Y (by decide) (by rw [hy,h])) (fun _ _ y=>y);have a7:=aT.out.gr W (fun y hy h=>aT.out.neb Y (by decide) (by rw [hy,h])) (fun _ _ y=>y);have q6:Below B w w6:=q5.grown W (Nat.le_trans hB q5.size) (fun y h=>by injection h with h;omega);have bs:=Qh (show LkY 130 w6 (some ⟨o,0,none⟩) (n-1) c C p d D q e (CI L k) from nG bg a8 a7 bz.out);have bY:=x6.set_at 1 (.slice (some ⟨o,0,none⟩) (n-1) c) #[aa L.name,.slice (some ⟨o,0,none⟩) (n-1) c,.slice C p d,.slice D q e] rfl;have t7:Tch (aW 26) w6 (w6.setCell ⟨w.heap.size,1,none⟩ (.slice (some ⟨o,0,none⟩) (n-1) c)):=Tch.set x6 (by simp [aW]) rfl 1 _;have z7:Blk (w6.setCell ⟨w.heap.size,1,none⟩ (.slice (some ⟨o,0,none⟩) (n-1) c)) (w.heap.size+1+1) 26 #[.string ⟨#[]⟩,.slice none 0 0,.slice none 0 0,.slice none 0 0]:=z6.far (p:=⟨w.heap.size,1,none⟩) (by show w.heap.size+1+1≠w.heap.size;omega) _;have q7:Below B w (w6.setCell ⟨w.heap.size,1,none⟩ (.slice (some ⟨o,0,none⟩) (n-1) c)):=q6.setCell (p:=⟨w.heap.size,1,none⟩) hB _;have t8:=lp z7 ⟨rfl,rfl,rfl,rfl⟩ (aa L.name) (.slice (some ⟨o,0,none⟩) (n-1) c) (.slice C p d) (.slice D q e);have bw:=Qh (bs.out.tch (t7.trans t8) (by decide) (by decide) (by decide) (by decide));have q8:=Qh (dd q7 (show B<=w.heap.size+1+1 by omega) (aa L.name) (.slice (some ⟨o,0,none⟩) (n-1) c) (.slice C p d) (.slice D q e));obtain ⟨a0,a1,a2,a3⟩:=x6.c4;have g0:=x6.f4;obtain ⟨b0,b1,b2,b3⟩:=z6.c4;obtain ⟨f0,f1,ab,f3⟩:=z6.f4;have cr:=x6.lt;have cn:=z6.lt;clear N ac aT X5 Z5 q5 bg a8 a7 x6 z6 bY z7 q7 t7 t8 q6 W Y;go_wp2_with fail;refine bodyPost_ret (v:=.tuple #[.agg #[aa L.name,.slice (some ⟨o,0,none⟩) (n-1) c,.slice C p d,.slice D q e],.nilIface]) (by simp [results,Tryz.results44,go_sem, *] <;> trivial) rfl ?_;rw [Z.out.1,Z.out.2,aO];exact ⟨_,_,_,_,_,_,_,_,_,rfl,bw.out,q8.out⟩
theorem FI (a b c:List UInt8):((⟨a.toArray⟩:ByteArray)++⟨b.toArray⟩++⟨c.toArray⟩).toList=a++b++c:=by
 have e:((⟨a.toArray⟩:ByteArray)++⟨b.toArray⟩++⟨c.toArray⟩)=⟨(a++b++c).toArray⟩:=by
  apply ByteArray.ext;simp [ByteArray.data_append]
 rw [e];exact aJ _
def sX (b:aj) (m:av):List UInt8:=b.name++[46]++m.name
def kI (L:ag) (nm:List UInt8) (i j:Nat):Prop:=∃ b m,L.bodies[i]?=some b/\b.pts[j]?=some m/\sX b m=nm
theorem uj {L:ag}(c:LkF L) {nm:List UInt8}{i j l k:Nat}(h:kI L nm i j) (o:kI L nm l k):i=l/\j=k:=by
 obtain ⟨b,m,hb,q,e⟩:=h;obtain ⟨n,s,a,d,f⟩:=o;have nb:=(uZ (c.body b (List.mem_of_getElem? hb)).name).2.2.1;have g:=(uZ (c.body n (List.mem_of_getElem? a)).name).2.2.1;unfold sX at e f;rw [List.append_assoc] at e f;obtain ⟨r,p⟩:=mN nb g (e.trans f.symm);obtain rfl:=c.dist hb a r;rw [hb] at a;injection a with a;subst a;exact ⟨rfl,(c.body b (List.mem_of_getElem? hb)).dist q d p⟩
def AX (L:ag) (nm:List UInt8) (x:Int) (i j:Nat):Prop:=(x=0/\kI L nm i j)\/(x=5/\i=0/\j=0/\∀ i' j',¬ kI L nm i' j')
theorem FJ (L:ag) (nm:List UInt8):∃ x i j,AX L nm x i j:=by
 by_cases h:∃ i j,kI L nm i j
 ·obtain ⟨i,j,h⟩:=h;exact ⟨0,i,j,.inl ⟨rfl,h⟩⟩
 exact ⟨5,0,0,.inr ⟨rfl,rfl,rfl,fun i j k=>h ⟨i,j,k⟩⟩⟩
def FK (w:World) (x:Int) (i j:Nat) (e:Ending) (w':World):Prop:=e=.returned (.tuple #[.int .i64 (i:Nat),.int .i64 (j:Nat),aV x])/\Below w.heap.size w w'
theorem CJ (w:World) (A:Option Addr) (n c:Nat) (C:Option Addr) (p d:Nat) (D:Option Addr) (q e:Nat) (L:ag) (h:LkS 130 w A n c C p d D q e L) (hL:aG L=0) (nm:List UInt8) (x:Int) (M K:Nat) (hO:AX L nm x M K):Calls Tryz.prog 77 #[.agg #[aa L.name,.slice A n c,.slice C p d,.slice D q e],aa nm] w (FK w x M K):=by
 have x0:Blk (w.alloc (.cells #[aa L.name,.slice A n c,.slice C p d,.slice D q e] 26)) w.heap.size 26 #[aa L.name,.slice A n c,.slice C p d,.slice D q e]:=Blk.new _ _ _;have P:=(ae w).alloc Qr (.cells #[aa L.name,.slice A n c,.slice C p d,.slice D q e] 26);have hF:=da hL;have bl:n<=8:=by rw [<- h.bodies.1];exact hF.ok.nb
 have HF:=Qh hF;have R:=Qh (h.belw P);have HO:=Qh hO;clear h hF hO;go_in;go_wp2_with fail;generalize (w.alloc (.cells #[aa L.name,.slice A n c,.slice C p d,.slice D q e] 26))=w0 at x0 P R ⊢;refine (dz w0 A n c C p d D q e L 130 R.out (by decide) (by decide) 0 hL).mono ?_;rintro e' w1 ⟨rfl,y⟩;rw [aO];have x1:=x0.below y x0.lt;have H1:=Qh (R.out.belw y).bodies;have q1:=Qh (P.trans (y.mono P.size));obtain ⟨a0,a1,a2,a3⟩:=x1.c4;clear x0 P y R;go_wp2_with fail;clear a0 a1 a2 a3;go_loopw [20] (fun iv wr=>∃ i:Nat,iv=.int .i64 (i:Nat)/\i<=n/\Hid (∀ Q s,Q<i->¬ kI L nm Q s)/\Below w1.heap.size w1 wr) (fun iv _=>n-(intOf iv).toNat)
 case atStart=>exact ⟨0,rfl,Nat.zero_le _,Qh fun Q s hi=>absurd hi (Nat.not_lt_zero _),ae w1⟩
 case round =>
  obtain ⟨i,rfl,hi,NO,hb⟩:=hrel;rename World=>wa;rcases Nat.lt_or_ge i n with ad | bn
  ·have ac:((i:Int)<(n:Int))=True:=by simp;omega
   have bs:((i:Int)<(n:Int)):=by omega
   obtain ⟨g,o,b,u,hg,_,z,hB⟩:=(H1.out.bd hb).at_ ad;subst u;obtain ⟨V,l,T,c0,c1,hM,I⟩:=hB;have bw:l<=8:=by rw [<- hM.1];exact (HF.out.ok.body b (List.mem_of_getElem? z)).2.1
   have HM:=Qh hM;have U:=Qh z;have HN:=Qh I;have a8:¬ g=wa.heap.size:=by omega
   have qa:=(ae wa).alloc Qr (.cells #[aa b.name,.slice V l T] 51);have xa:Blk (wa.alloc (.cells #[aa b.name,.slice V l T] 51)) wa.heap.size 51 #[aa b.name,.slice V l T]:=Blk.new _ _ _;have k:=Qh qa;have B:=Qh xa;clear hM z I qa xa;go_wp2_with fail;generalize an:(wa.alloc (.cells #[aa b.name,.slice V l T] 51))=wb at k B ⊢;clear an c0 c1;have Z:=Qh (HM.out.mk_ k.out);go_loopw [28] (fun jv wr=>∃ j:Nat,jv=.int .i64 (j:Nat)/\j<=l/\Hid (∀ s,s<j->¬ kI L nm i s)/\Below wb.heap.size wb wr) (fun jv _=>l-(intOf jv).toNat)
   case atStart=>exact ⟨0,rfl,Nat.zero_le _,Qh fun s hj=>absurd hj (Nat.not_lt_zero _),ae wb⟩
   case round =>
    obtain ⟨j,rfl,hj,E,f⟩:=hrel;rename World=>wc;have qc:=(q1.out.trans (hb.mono q1.out.size)).trans ((k.out.trans (f.mono k.out.size)).mono (Nat.le_trans q1.out.size hb.size));rcases Nat.lt_or_ge j l with Y | bu
    ·have al:((j:Int)<(l:Int))=True:=by simp;omega
     have bv:((j:Int)<(l:Int)):=by omega
     obtain ⟨G,S,m,u,bg,_,J,aC⟩:=(Z.out.mk_ f).at_ Y;subst u;obtain ⟨d0,⟨b1,A1,n1,c1,D1,m1,u,d1,d2,d3,a4⟩,⟨b2,A2,n2,c2,D2,m2,N,d4,d5,d6,ab⟩,ao⟩:=aC;have d2:wc.cell? ⟨G,S+j*7+2,none⟩=some (.slice A1 n1 c1):=d2;have d3:wc.cell? ⟨G,S+j*7+3,none⟩=some (.slice D1 m1 u):=d3;have d5:wc.cell? ⟨G,S+j*7+5,none⟩=some (.slice A2 n2 c2):=d5;have d6:wc.cell? ⟨G,S+j*7+6,none⟩=some (.slice D2 m2 N):=d6;have a7:¬ G=wc.heap.size:=by omega
     have xc:=B.out.below f B.out.lt;have br:=xc.c2;have bf:=xc.lt;have a6:¬ wa.heap.size=wc.heap.size:=by omega
     have k1:(9223372036854775807<b.name.length+1)=False:=eq_false (by have:b.name.length<_:=HN.out;omega);have k2:(9223372036854775807<b.name.length+1+m.name.length)=False:=eq_false (by have:b.name.length<_:=HN.out;have:m.name.length<_:=ao;omega);have O:=Qh J;have bk:=aJ b.name;have a9:=aJ m.name;have bb:=aJ nm;clear a4 ab J;by_cases r:sX b m=nm
     ·have aS:(((⟨b.name.toArray⟩:ByteArray)++⟨#[46]⟩++⟨m.name.toArray⟩).toList==nm)=true:=by rw [show ((⟨b.name.toArray⟩:ByteArray)++⟨#[46]⟩++⟨m.name.toArray⟩).toList=_ from FI b.name [46] m.name];simpa [sX] using r
      have F:kI L nm i j:=⟨b,m,U.out,O.out,r⟩;have W:=Qh F;clear r F;go_wp2_with fail
      have hR:x=0/\i=M/\j=K:=by
       rcases HO.out with ⟨a,t⟩ | ⟨_,_,_,h4⟩
       ·obtain ⟨u,N⟩:=uj HF.out W.out t
        exact ⟨a,u,N⟩
       exact absurd W.out (h4 i j)
      refine bodyPost_ret (v:=.tuple #[.int .i64 (i:Nat),.int .i64 (j:Nat),.nilIface]) (by simp [results,Tryz.results77,go_sem, *] <;> trivial) rfl ?_;obtain ⟨u,N,e3⟩:=hR;rw [u,N,e3];exact ⟨by rw [aO],qc.alloc qc.size _⟩
     have aS:(((⟨b.name.toArray⟩:ByteArray)++⟨#[46]⟩++⟨m.name.toArray⟩).toList==nm)=false:=by rw [show ((⟨b.name.toArray⟩:ByteArray)++⟨#[46]⟩++⟨m.name.toArray⟩).toList=_ from FI b.name [46] m.name];simpa [sX] using r
     have W:=Qh r;clear r;go_wp2_with fail;go_roundw
     case rel =>
      refine ⟨j+1,by go_num,by omega,Qh fun s a5=>?_,f.alloc f.size _⟩;rcases Nat.eq_or_lt_of_le (Nat.le_of_lt_succ a5) with e | e
      ·subst e
       rintro ⟨b',m',a,t,H⟩;rw [U.out] at a;injection a with a;subst a;rw [O.out] at t;injection t with t;subst t;exact W.out H
      exact E.out s e
     case measure=>simp [intOf];omega
    have al:((j:Int)<(l:Int))=False:=by simp;omega
    obtain rfl:l=j:=by omega
    have aT:=k.out.trans (f.mono k.out.size);go_wp2_with fail;go_roundw
    case rel =>
     refine ⟨i+1,by go_num,by omega,Qh fun Q s X=>?_,hb.trans (aT.mono hb.size)⟩;rcases Nat.eq_or_lt_of_le (Nat.le_of_lt_succ X) with e | e
     ·subst e
      intro r;obtain ⟨b',m',a,t,H⟩:=r;rw [U.out] at a;injection a with a;subst a;exact E.out s (by have:=(List.getElem?_eq_some_iff.1 t).1;have:=HM.out.1;omega) ⟨b,m',U.out,t,H⟩
     exact NO.out Q s e
    case measure=>simp [intOf];omega
  have ac:((i:Int)<(n:Int))=False:=by simp;omega
  obtain rfl:n=i:=by omega
  have hR:x=5/\M=0/\K=0:=by
   rcases HO.out with ⟨_,r⟩ | ⟨a,t,H,_⟩
   ·obtain ⟨b,m,a,_,_⟩:=id r
    exact absurd r (NO.out M K (by have:=(List.getElem?_eq_some_iff.1 a).1;have:=H1.out.1;omega))
   exact ⟨a,t,H⟩
  obtain ⟨rfl,rfl,rfl⟩:=hR;go_wp2_with fail;refine bodyPost_ret (v:=.tuple #[.int .i64 0,.int .i64 0,.iface 58 (.int .i64 5)]) (by simp [results,Tryz.results77,go_sem, *] <;> trivial) rfl ?_;exact ⟨rfl,q1.out.trans (hb.mono q1.out.size)⟩
def Raw (_:World) (cs:List Value) (a:List Value):Prop:=cs=a
section
variable {α:Type}{T0:TypeId}{Pc:World->List Value->α->Prop}{s:Nat}{w:World}{B:Nat}{v:Value}{n:Nat}{l:List α}{css:List (List Value)}
theorem ap.raw (h:ap T0 Pc s w B v n l):∃ b:List (List Value),b.length=l.length/\(∀ (i:Nat) a cs,l[i]?=some a->b[i]?=some cs->Pc w cs a)/\ap T0 Raw s w B v n b:=by
 obtain ⟨k,o,j,b,e,d,c,g⟩:=h;exact ⟨b,d,g,d.trans k,o,j,b,e,rfl,c,fun i a cs m f=>by rw [m] at f;injection f with f;exact f.symm⟩
theorem ap.unraw (h:ap T0 Raw s w B v n css) (d:css.length=l.length) (f:∀ (i:Nat) a cs,l[i]?=some a->css[i]?=some cs->Pc w cs a):ap T0 Pc s w B v n l:=by
 obtain ⟨k,o,g,c,e,p,b,j⟩:=h
 have m:c=css:=List.ext_getElem? fun i=>by
  cases hc:css[i]? with
  | none=>exact List.getElem?_eq_none (by have:=List.getElem?_eq_none_iff.1 hc;omega)
  | some a =>
   have q:=(List.getElem?_eq_some_iff.1 hc).1;have hd:c[i]?=some c[i]:=List.getElem?_eq_getElem (by omega);rw [hd];exact congrArg some (j i a _ hc hd)
 subst m;exact ⟨d.symm.trans k,o,g,c,e,d,b,f⟩
end
theorem gb_set {w b:World}{g:Nat}(k:w.grownBy b (some g)) (i:Nat) (u:Value):w.grownBy (b.setCell ⟨g,i,none⟩ u) (some g):=⟨k.os,k.tape,k.output,by simpa using k.size,fun x c a=>(Below.heap_setCell b ⟨g,i,none⟩ u x (fun e=>a (by rw [e]))).trans (k.block x c a)⟩
theorem vO (w:World) (r:Option Nat):w.grownBy w r:=⟨rfl,rfl,rfl,Qr,fun _ _ _=>rfl⟩
structure RwM (w:World) (B g n c:Nat) (css:List (List Value)) (w':World):Prop where
  row:ap 56 Raw 7 w' B (.slice (some ⟨g,0,none⟩) n c) n css
  tch:Tch (aW 56) w w'
  grw:w.grownBy w' (some g)
theorem RwM.refl {w:World}{B g n c:Nat}{a:List (List Value)}(h:ap 56 Raw 7 w B (.slice (some ⟨g,0,none⟩) n c) n a):RwM w B g n c a w:=⟨h,Tch.refl _,vO _ _⟩
theorem RwM.set {w d:World}{B g n c i j:Nat}{a:List (List Value)}{cs b:List Value}{u:Value}(h:RwM w B g n c a d) (l:a[i]?=some cs) (m:j<7) (k:noW u=true) (e:cs.set j u=b):RwM w B g n c (a.set i b) (d.setCell ⟨g,i*7+j,none⟩ u):=by
 obtain ⟨r,t,_,_⟩:=h.row.set (a':=b) l m k (fun _ _ _ x=>x) (fun f x=>by rw [show f=cs from x];exact e);exact ⟨r,h.tch.trans t,gb_set h.grw _ _⟩
theorem fB {α:Type}{l:List α}{i:Nat}{a b:α}(h:l[i]?=some a):(l.set i b)[i]?=some b:=List.getElem?_set_self (List.getElem?_eq_some_iff.1 h).1
theorem RwM.x {w l:World}{B g n c i:Nat}{a:List (List Value)}{q y z u o m p d b f:Value}(h:RwM w B g n c a l) (k:a[i]?=some [q,y,z,u,o,m,p]) (t:noW d=true) (s:noW b=true) (v:noW f=true):RwM w B g n c (a.set i [q,d,b,f,o,m,p]) (((l.setCell ⟨g,i*7+1,none⟩ d).setCell ⟨g,i*7+2,none⟩ b).setCell ⟨g,i*7+3,none⟩ f):=by
 have r:=h.set (j:=1) k (by decide) t rfl;have k2:=r.set (j:=2) (fB k) (by decide) s rfl;have k3:=k2.set (j:=3) (fB (fB k)) (by decide) v rfl;rw [List.set_set,List.set_set] at k3;exact k3
theorem RwM.y {w l:World}{B g n c i:Nat}{a:List (List Value)}{o p q m v u z d b f:Value}(h:RwM w B g n c a l) (k:a[i]?=some [o,p,q,m,v,u,z]) (t:noW d=true) (s:noW b=true) (x:noW f=true):RwM w B g n c (a.set i [o,p,q,m,d,b,f]) (((l.setCell ⟨g,i*7+4,none⟩ d).setCell ⟨g,i*7+5,none⟩ b).setCell ⟨g,i*7+6,none⟩ f):=by
 have r:=h.set (j:=4) k (by decide) t rfl;have k2:=r.set (j:=5) (fB k) (by decide) s rfl;have k3:=k2.set (j:=6) (fB (fB k)) (by decide) x rfl;rw [List.set_set,List.set_set] at k3;exact k3
theorem RwM.xy {w m:World}{B g n c i:Nat}{a:List (List Value)}{p u v q s r t l d j f u5 u6:Value}(h:RwM w B g n c a m) (o:a[i]?=some [p,u,v,q,s,r,t]) (b:(noW l=true/\noW d=true/\noW j=true)/\noW f=true/\noW u5=true/\noW u6=true):RwM w B g n c (a.set i [p,l,d,j,f,u5,u6]) ((((((m.setCell ⟨g,i*7+1,none⟩ l).setCell ⟨g,i*7+2,none⟩ d).setCell ⟨g,i*7+3,none⟩ j).setCell ⟨g,i*7+4,none⟩ f).setCell ⟨g,i*7+5,none⟩ u5).setCell ⟨g,i*7+6,none⟩ u6):=by
 have k:=(h.x o b.1.1 b.1.2.1 b.1.2.2).y (fB o) b.2.1 b.2.2.1 b.2.2.2;rw [List.set_set] at k;exact k
theorem RwM.yx {w m:World}{B g n c i:Nat}{a:List (List Value)}{p u v q s r t l d j f u5 u6:Value}(h:RwM w B g n c a m) (o:a[i]?=some [p,u,v,q,s,r,t]) (b:(noW l=true/\noW d=true/\noW j=true)/\noW f=true/\noW u5=true/\noW u6=true):RwM w B g n c (a.set i [p,l,d,j,f,u5,u6]) ((((((m.setCell ⟨g,i*7+4,none⟩ f).setCell ⟨g,i*7+5,none⟩ u5).setCell ⟨g,i*7+6,none⟩ u6).setCell ⟨g,i*7+1,none⟩ l).setCell ⟨g,i*7+2,none⟩ d).setCell ⟨g,i*7+3,none⟩ j):=by
 have k:=(h.y o b.2.1 b.2.2.1 b.2.2.2).x (fB o) b.1.1 b.1.2.1 b.1.2.2;rw [List.set_set] at k;exact k
theorem jA.put {B:Nat}{w:World}{S n c:Nat}{l:List aj}{i:Nat}{b:aj}(h:jA B w (.slice (some ⟨S,0,none⟩) n c) n l) (K:l[i]?=some b):∃ A np p,w.cell? ⟨S,i*2+1,none⟩=some (.slice A np p)/\ap 56 (MkC 130) 7 w B (.slice A np p) np b.pts/\∀ D g (L:aj),A=some ⟨g,0,none⟩->w.grownBy D (some g)->Tch (aW 56) w D->L.name=b.name->ap 56 (MkC 130) 7 D B (.slice A np p) np L.pts->ap 51 (BdC 130) 2 D B (.slice (some ⟨S,0,none⟩) n c) n (l.set i L):=by
 obtain ⟨hl,Y,J,⟨f,e,H,o,W⟩,hd⟩:=h;have X:=(List.getElem?_eq_some_iff.1 K).1;have r:f[i]?=some f[i]:=List.getElem?_eq_getElem (by omega);obtain ⟨A,np,p,R,h1,h2⟩:=W i b _ K r
 have d:∀ (k:Nat) V P Q,f[k]?=some [aa (l.getD k b).name,.slice V P Q]->Y[k*2+1]?=some (.slice V P Q):=fun k V P Q F=>by
  rw [e,ku o F 1 (by decide)];rfl
 have I:l.getD i b=b:=by simp [List.getD,K]
 refine ⟨A,np,p,?_,h1,fun D g L hA hg t G hr=>?_⟩
 ·obtain ⟨g,cs,m,_,q⟩:=ap.at_ (T0:=51) (Pc:=BdO B) ⟨hl,Y,J,f,e,H,o,W⟩ K
  injection m with m;injection m with m;subst m;have j:=d i A np p (by rw [r,R,I]);obtain ⟨ac,v⟩:=J;rcases v with ⟨e,_⟩ | ⟨g',ab,cur,e,h2,E,h4,h5,h6,h7,h8⟩
  ·cases e
  injection e with m _ s;injection m with m;injection m with m;subst m s;unfold World.cell?;rw [E];rw [<- h7,List.getElem?_take] at j;split at j
  ·simpa using j
  cases j
 have t':Tch (aW 56) w D:=t;refine ⟨by rw [List.length_set,hl],Y,⟨J.1,?_⟩,f,e,by rw [List.length_set,H],o,fun k a cs u q=>?_⟩
 ·rcases J.2 with E | ⟨g',cap,cur,E,h4,h5,h6⟩
  ·exact .inl E
  exact .inr ⟨g',cap,cur,E,h4,t'.2 _ _ _ _ h5 (.inl (by decide)),h6⟩
 rw [List.getElem?_set] at u;by_cases F:i=k
 ·subst F
  rw [if_pos rfl,if_pos X] at u;injection u with u;subst u;rw [r] at q;injection q with q;subst q;exact ⟨A,np,p,by rw [R,G],hr.slT fun _ _ _ _ x q=>x.at_ q,by rw [G];exact h2⟩
 rw [if_neg F] at u;have T:=W k a cs u q;obtain ⟨Z,M,c2,f0,f1,f2⟩:=T;refine BdO.bdc (B:=B) ⟨Z,M,c2,f0,f1.gr hg (fun x j z=>?_) (fun _ _ y=>y.tch t'),f2⟩;injection z with z;subst z
 have N:Z=some ⟨g,0,none⟩:=by
  obtain ⟨_,ys,oy,_⟩:=f1;rcases oy.2 with ⟨s,_⟩ | ⟨g3,_,_,s,_⟩
  ·injection s with s _ _
   rw [s] at j;cases j
  injection s with s _ _;rw [s] at j ⊢;injection j with j;rw [show g3=g from j]
 have O:=d i A np p (by rw [r,R,I]);have U:=d k Z M c2 (by rw [q,f0];simp [List.getD,u]);rw [hA] at O;rw [N] at U;rcases Nat.lt_or_gt_of_ne F with C | C
 ·exact hd i k g np p M c2 C O U
 exact hd k i g M c2 np p C U O
def mvL (L:ag) (i j:Nat) (b:aj) (m:av) (x y:Rat):ag:=⟨L.name,L.bodies.set i ⟨b.name,b.pts.set j ⟨m.name,rd x,rd y⟩⟩,L.joints,L.drivers⟩
def xK (l:List Tkn):Prop:=∃ t0 t1,l=[t0,t1]/\t0.kind=1/\t1.kind=1
def AY (L:ag) (nm txt:List UInt8) (x:Int) (L':ag):Prop:=∃ xp i j,AX L nm xp i j/\((xp≠0/\x=xp/\L'=L0)\/(xp=0/\∃ b m,L.bodies[i]?=some b/\b.pts[j]?=some m/\∃ xs l,bA txt xs l/\((xs≠0/\x=xs/\L'=L0)\/(xs=0/\((¬ xK l/\x=2/\L'=L0)\/∃ t0 t1,l=[t0,t1]/\t0.kind=1/\t1.kind=1/\∃ x0 q0,iA t0.text x0 q0/\((x0≠0/\x=x0/\L'=L0)\/(x0=0/\∃ x1 q1,iA t1.text x1 q1/\((x1≠0/\x=x1/\L'=L0)\/(x1=0 /\
  ((aG (mvL L i j b m q0 q1)≠0/\x=aG (mvL L i j b m q0 q1)/\L'=L0)\/(aG (mvL L i j b m q0 q1)=0/\x=0/\L'=mvL L i j b m q0 q1)))))))))))
theorem FL (L:ag) (nm txt:List UInt8):∃ x L',AY L nm txt x L':=by
 obtain ⟨c,i,j,d⟩:=FJ L nm;by_cases h0:c=0
 ·obtain ⟨b,m,hb,n,_⟩:kI L nm i j:=by
   rcases d with ⟨_,h⟩ | ⟨h,_⟩
   ·exact h
   omega
  obtain ⟨f,l,k⟩:=si txt;by_cases h1:f=0
  ·by_cases h2:xK l
   ·obtain ⟨r,p,e,t,s⟩:=h2
    obtain ⟨x0,o,a⟩:=mU r.text;by_cases h3:x0=0
    ·obtain ⟨q,q1,g⟩:=mU p.text
     by_cases h4:q=0
     ·by_cases h5:aG (mvL L i j b m o q1)=0
      ·exact ⟨0,_,c,i,j,d,.inr ⟨h0,b,m,hb,n,f,l,k,.inr ⟨h1,.inr ⟨r,p,e,t,s,x0,o,a,.inr ⟨h3,q,q1,g,.inr ⟨h4,.inr ⟨h5,rfl,rfl⟩⟩⟩⟩⟩⟩⟩
      exact ⟨_,L0,c,i,j,d,.inr ⟨h0,b,m,hb,n,f,l,k,.inr ⟨h1,.inr ⟨r,p,e,t,s,x0,o,a,.inr ⟨h3,q,q1,g,.inr ⟨h4,.inl ⟨h5,rfl,rfl⟩⟩⟩⟩⟩⟩⟩
     exact ⟨q,L0,c,i,j,d,.inr ⟨h0,b,m,hb,n,f,l,k,.inr ⟨h1,.inr ⟨r,p,e,t,s,x0,o,a,.inr ⟨h3,q,q1,g,.inl ⟨h4,rfl,rfl⟩⟩⟩⟩⟩⟩
    exact ⟨x0,L0,c,i,j,d,.inr ⟨h0,b,m,hb,n,f,l,k,.inr ⟨h1,.inr ⟨r,p,e,t,s,x0,o,a,.inl ⟨h3,rfl,rfl⟩⟩⟩⟩⟩
   exact ⟨2,L0,c,i,j,d,.inr ⟨h0,b,m,hb,n,f,l,k,.inr ⟨h1,.inl ⟨h2,rfl,rfl⟩⟩⟩⟩
  exact ⟨f,L0,c,i,j,d,.inr ⟨h0,b,m,hb,n,f,l,k,.inl ⟨h1,rfl,rfl⟩⟩⟩
 exact ⟨c,L0,c,i,j,d,.inl ⟨h0,rfl,rfl⟩⟩
theorem EF (w:World) (B:Nat) (hB:B<=w.heap.size) (A:Option Addr) (n c:Nat) (C:Option Addr) (p d:Nat) (D:Option Addr) (q e:Nat) (L:ag) (h:CpO B w A n c C p d D q e L) (hL:aG L=0) (cn:Mx w) (nm txt:List UInt8) (x:Int) (L':ag) (hR:AY L nm txt x L'):Calls Tryz.prog 37 #[.agg #[aa L.name,.slice A n c,.slice C p d,.slice D q e],aa nm,aa txt] w (AV B w (aV x) L'):=by
 have x0:Blk ((w.alloc (.cells #[aa L.name,.slice A n c,.slice C p d,.slice D q e] 26)).alloc (.cells #[.string ⟨#[]⟩,.slice none 0 0,.slice none 0 0,.slice none 0 0] 26)) w.heap.size 26 #[aa L.name,.slice A n c,.slice C p d,.slice D q e]:=(Blk.new _ _ _).alloc _;have z0:Blk ((w.alloc (.cells #[aa L.name,.slice A n c,.slice C p d,.slice D q e] 26)).alloc (.cells #[.string ⟨#[]⟩,.slice none 0 0,.slice none 0 0,.slice none 0 0] 26)) (w.heap.size+1) 26 #[.string ⟨#[]⟩,.slice none 0 0,.slice none 0 0,.slice none 0 0]:=ak _ _ _ (by simp);have G:=((ae w).alloc Qr (.cells #[aa L.name,.slice A n c,.slice C p d,.slice D q e] 26)).alloc (by simp) (.cells #[.string ⟨#[]⟩,.slice none 0 0,.slice none 0 0,.slice none 0 0] 26);have hF:=da hL;have e9:n<=8:=by rw [<- h.bd.1];exact hF.ok.nb
 have ej:L.bodies.length=n:=h.bd.1;have HF:=Qh hF;have BD:=Qh (h.bd.blw G);have JT:=Qh (h.jt.blw G);have DR:=Qh (h.dr.blw G);have HS:=Qh (h.lkY.blw G).out;have HM:=Qh (cn.belw G);have em:=Qh h.nm;obtain ⟨xp,i,j,hp,hR⟩:=hR;have HP:=Qh hp;have HR:=Qh hR;have G:=G.mono hB;clear h hR hF hp cn;go_in;go_wp2_with fail;generalize ((w.alloc (.cells #[aa L.name,.slice A n c,.slice C p d,.slice D q e] 26)).alloc (.cells #[.string ⟨#[]⟩,.slice none 0 0,.slice none 0 0,.slice none 0 0] 26))=w0 at x0 z0 G BD JT DR HS HM ⊢;refine (CJ w0 A n c C p d D q e L HS.out hL nm xp i j HP.out).mono ?_;rintro e' w1 ⟨rfl,K⟩;have bz:=Qh (BD.out.blw K);have cr:=Qh (JT.out.blw K);have bY:=Qh (DR.out.blw K);have ee:=Qh (HM.out.belw K);have x1:=x0.below K x0.lt;have z1:=z0.below K z0.lt;have q1:=G.trans (K.mono (Nat.le_trans hB G.size));clear BD JT DR HS HM x0 z0 G K;rcases HR.out with ⟨u,g,f⟩ | ⟨rfl,b,m,c7,dq,xs,l,hs,d1⟩
 ·rw [eVp u]
  have o:=Qh (And.intro u (And.intro g f));obtain ⟨b0,b1,b2,b3⟩:=z1.c4;obtain ⟨f0,f1,N,f3⟩:=z1.f4;clear u g f;go_wp2_with fail;refine bodyPost_ret (v:=.tuple #[.agg #[.string ⟨#[]⟩,.slice none 0 0,.slice none 0 0,.slice none 0 0],.iface 58 (.int .i64 (xp))]) (by simp [results,Tryz.results37,go_sem, *] <;> trivial) rfl ?_;rw [o.out.2.1,o.out.2.2,eVp o.out.1];exact ⟨_,_,_,_,_,_,_,_,_,rfl,LkY.zero _ _,dd q1 (by omega) _ _ _ _⟩
 rw [aO];have aC:=Qh c7;have Y:=Qh dq;have cb:=Qh d1;have eq:=Qh hs;clear HR c7 dq d1 hs;go_wp2_with fail;refine (lm w1 txt xs l eq.out).mono ?_;rintro e' w2 ⟨A5,n5,c5,rfl,hT,H⟩;have ch:=Qh (bz.out.blw H);have dv:=Qh (cr.out.blw H);have b8:=Qh (bY.out.blw H);have bn:=Qh (ee.out.belw H);have x2:=x1.below H x1.lt;have Z:=z1.below H z1.lt;have q2:=q1.trans (H.mono (Nat.le_trans hB q1.size));have HT:=Qh hT;clear bz cr bY ee x1 z1 q1 H hT;rcases cb.out with ⟨u,g,f⟩ | ⟨rfl,bg⟩
 ·rw [eVp u]
  have o:=Qh (And.intro u (And.intro g f));obtain ⟨b0,b1,b2,b3⟩:=Z.c4;obtain ⟨f0,f1,N,f3⟩:=Z.f4;clear u g f;go_wp2_with fail;refine bodyPost_ret (v:=.tuple #[.agg #[.string ⟨#[]⟩,.slice none 0 0,.slice none 0 0,.slice none 0 0],.iface 58 (.int .i64 (xs))]) (by simp [results,Tryz.results37,go_sem, *] <;> trivial) rfl ?_;rw [o.out.2.1,o.out.2.2,eVp o.out.1];exact ⟨_,_,_,_,_,_,_,_,_,rfl,LkY.zero _ _,dd q2 (by omega) _ _ _ _⟩
 rw [aO]
 have d6:¬ xK l->x=2/\L'=L0:=fun hh=>by
  rcases bg with ⟨_,s,Q⟩ | ⟨t0,t1,s,Q,e3,_⟩
  ·exact ⟨s,Q⟩
  exact absurd ⟨t0,t1,s,Q,e3⟩ hh
 have ad:=Qh d6;have cm:=Qh bg;clear cb bg d6;have V:l.length=n5:=HT.out.1;by_cases h2:n5=2;rotate_left
 ·have E:¬ xK l:=fun ⟨t0,t1,s,_⟩=>h2 (by rw [<- V,s];rfl)
  obtain ⟨I,J⟩:=ad.out E;have u1:((n5:Int)=2)=False:=eq_false (by omega);have u2:((n5:Int)==2)=false:=by simp;omega
  have o:=Qh (And.intro I J);obtain ⟨b0,b1,b2,b3⟩:=Z.c4;obtain ⟨f0,f1,N,f3⟩:=Z.f4;clear h2 E I J;go_wp2_with fail;refine bodyPost_ret (v:=.tuple #[.agg #[.string ⟨#[]⟩,.slice none 0 0,.slice none 0 0,.slice none 0 0],.iface 58 (.int .i64 (2))]) (by simp [results,Tryz.results37,go_sem, *] <;> trivial) rfl ?_;rw [o.out.1,o.out.2,eVp (show (2:Int)≠0 by decide)];exact ⟨_,_,_,_,_,_,_,_,_,rfl,LkY.zero _ _,dd q2 (by omega) _ _ _ _⟩
 subst h2;obtain ⟨gt,t0,rfl,fr,cu,bw,ck,_,_⟩:=HT.out.cells (i:=0) (by decide);obtain ⟨fc,t1,eg,_,d4,M,R,_,_⟩:=HT.out.cells (i:=1) (by decide);injection eg with eg;injection eg with eg;subst eg
 have J:l=[t0,t1]:=by
  match l,V,cu,d4 with
  | [a,b],_,h1,h2=>simp at h1 h2;rw [h1,h2]
 simp only [Nat.zero_mul,Nat.one_mul,Nat.zero_add] at bw ck M R;clear cu d4;by_cases X:t0.kind=1;rotate_left
 ·have E:¬ xK l:=fun ⟨s0,s1,s,Q,_⟩=>X (by rw [J] at s;injection s with s _;rw [s];exact Q)
  obtain ⟨I,S⟩:=ad.out E;have u1:(((t0.kind:Nat):Int)=1)=False:=eq_false (by omega);have u2:(((t0.kind:Nat):Int)==1)=false:=by simp;omega
  have o:=Qh (And.intro I S);obtain ⟨b0,b1,b2,b3⟩:=Z.c4;obtain ⟨f0,f1,N,f3⟩:=Z.f4;clear X E I S;go_wp2_with fail;refine bodyPost_ret (v:=.tuple #[.agg #[.string ⟨#[]⟩,.slice none 0 0,.slice none 0 0,.slice none 0 0],.iface 58 (.int .i64 (2))]) (by simp [results,Tryz.results37,go_sem, *] <;> trivial) rfl ?_;rw [o.out.1,o.out.2,eVp (show (2:Int)≠0 by decide)];exact ⟨_,_,_,_,_,_,_,_,_,rfl,LkY.zero _ _,dd q2 (by omega) _ _ _ _⟩
 rw [X] at bw;by_cases T:t1.kind=1;rotate_left
 ·have E:¬ xK l:=fun ⟨s0,s1,s,_,Q⟩=>T (by rw [J] at s;injection s with _ s;injection s with s _;rw [s];exact Q)
  obtain ⟨I,S⟩:=ad.out E;have u1:(((t1.kind:Nat):Int)=1)=False:=eq_false (by omega);have u2:(((t1.kind:Nat):Int)==1)=false:=by simp;omega
  have o:=Qh (And.intro I S);obtain ⟨b0,b1,b2,b3⟩:=Z.c4;obtain ⟨f0,f1,N,f3⟩:=Z.f4;clear T E I S;go_wp2_with fail;refine bodyPost_ret (v:=.tuple #[.agg #[.string ⟨#[]⟩,.slice none 0 0,.slice none 0 0,.slice none 0 0],.iface 58 (.int .i64 (2))]) (by simp [results,Tryz.results37,go_sem, *] <;> trivial) rfl ?_;rw [o.out.1,o.out.2,eVp (show (2:Int)≠0 by decide)];exact ⟨_,_,_,_,_,_,_,_,_,rfl,LkY.zero _ _,dd q2 (by omega) _ _ _ _⟩
 rw [T] at M
 obtain ⟨e0,r0,cz,cx⟩:∃ x0 G,iA t0.text x0 G/\((x0≠0/\x=x0/\L'=L0)\/(x0=0/\∃ x1 q1,iA t1.text x1 q1/\((x1≠0/\x=x1/\L'=L0)\/(x1=0/\((aG (mvL L i j b m G q1)≠0/\x=aG (mvL L i j b m G q1)/\L'=L0)\/(aG (mvL L i j b m G q1)=0/\x=0/\L'=mvL L i j b m G q1)))))):=by
  rcases cm.out with ⟨E,_,_⟩ | ⟨s0,s1,s,_,_,x0,G,h1,h2⟩
  ·exact absurd ⟨t0,t1,J,X,T⟩ E
  rw [J] at s;injection s with s Q;injection Q with Q _;subst s Q;exact ⟨x0,G,h1,h2⟩
 have d5:=Qh cz;have b5:=Qh cx;clear cm ad cz cx J V X T;go_wp2_with fail;refine (ll w2 t0.text e0 r0 bn.out d5.out).mono ?_;rintro e' w3 ⟨vb,vA,vn,vc,vD,vm,ve,rfl,d9,z⟩;have ey:B<=w2.heap.size:=Nat.le_trans hB q2.size;have M:=am M z;have R:=am R z;clear bw ck;have en:gt<w3.heap.size:=World.block_lt_of_cell? w3 _ M;have bx:=Qh (ch.out.blw z);have c6:=Qh (dv.out.blw z);have cL:=Qh (b8.out.blw z);have cy:=Qh (bn.out.belw z);have x3:=x2.below z x2.lt;have z3:=Z.below z Z.lt;have q3:=q2.trans (z.mono ey);have d2:=Qh d9;have fb:=z3.lt;clear ch dv b8 bn x2 Z q2 d9 d5;rcases b5.out with ⟨u,g,f⟩ | ⟨rfl,s,r1,dn,d3⟩
 ·rw [eVp u]
  have o:=Qh (And.intro u (And.intro g f));obtain ⟨b0,b1,b2,b3⟩:=z3.c4;obtain ⟨f0,f1,N,f3⟩:=z3.f4;clear u g f M R;go_wp2_with fail;refine bodyPost_ret (v:=.tuple #[.agg #[.string ⟨#[]⟩,.slice none 0 0,.slice none 0 0,.slice none 0 0],.iface 58 (.int .i64 (e0))]) (by simp [results,Tryz.results37,go_sem, *] <;> trivial) rfl ?_;rw [o.out.2.1,o.out.2.2,eVp o.out.1];exact ⟨_,_,_,_,_,_,_,_,_,rfl,LkY.zero _ _,(dd q3 (by omega) _ _ _ _).alloc (by simp;omega) _⟩
 rw [aO];have b4:=Qh d3;have d7:=Qh dn;clear b5 d3 dn;have c2:¬ gt=w3.heap.size:=by omega
 go_wp2_with fail;have qa:=(ae w3).alloc Qr (.cells #[.bool vb,.slice vA vn vc,.slice vD vm ve] 54);have xa:Blk (w3.alloc (.cells #[.bool vb,.slice vA vn vc,.slice vD vm ve] 54)) w3.heap.size 54 #[.bool vb,.slice vA vn vc,.slice vD vm ve]:=Blk.new _ _ _;generalize (w3.alloc (.cells #[.bool vb,.slice vA vn vc,.slice vD vm ve] 54))=w4 at qa xa ⊢;refine (ll w4 t1.text s r1 (cy.out.belw qa) d7.out).mono ?_;rintro e' w5 ⟨ub,uA,un,uc,uD,um,ue,rfl,ea,br⟩;have qb:=qa.trans (br.mono qa.size);have c9:B<=w3.heap.size:=Nat.le_trans hB q3.size;have ds:=Qh (bx.out.blw qb);have c8:=Qh (c6.out.blw qb);have ec:=Qh (cL.out.blw qb);have x5:=x3.below qb x3.lt;have z5:=z3.below qb z3.lt;have q5:=q3.trans (qb.mono c9);have ac:=xa.below br xa.lt;have a9:=Qh (d2.out.belw qb);have di:=Qh ea;have e7:=z5.lt;have e5:w3.heap.size<w5.heap.size:=ac.lt;clear bx c6 cL cy x3 z3 q3 ea d7 d2 xa qa qb br M R en c2 z;rcases b4.out with ⟨u,g,f⟩ | ⟨rfl,ed⟩
 ·rw [eVp u]
  have o:=Qh (And.intro u (And.intro g f));obtain ⟨b0,b1,b2,b3⟩:=z5.c4;obtain ⟨f0,f1,N,f3⟩:=z5.f4;clear u g f;go_wp2_with fail;refine bodyPost_ret (v:=.tuple #[.agg #[.string ⟨#[]⟩,.slice none 0 0,.slice none 0 0,.slice none 0 0],.iface 58 (.int .i64 (s))]) (by simp [results,Tryz.results37,go_sem, *] <;> trivial) rfl ?_;rw [o.out.2.1,o.out.2.2,eVp o.out.1];exact ⟨_,_,_,_,_,_,_,_,_,rfl,LkY.zero _ _,(dd q5 (by omega) _ _ _ _).alloc (by simp;omega) _⟩
 rw [aO];have ex:=Qh ed;clear b4 ed;go_upto_region 15 with fail;refine dl ?_;intro w6 bf;have F:Below w5.heap.size w5 w6:=by rw [bf];exact (ae w5).alloc Qr _
 have bv:Blk w6 w5.heap.size 54 #[.bool ub,.slice uA un uc,.slice uD um ue]:=by rw [bf];exact Blk.new _ _ _
 clear bf;have d0:B<=w5.heap.size:=Nat.le_trans hB q5.size;have aS:=ds.out.blw F;have b6:=Qh (c8.out.blw F);have db:=Qh (ec.out.blw F);have x6:=x5.below F x5.lt;have z6:=z5.below F z5.lt;have q6:=q5.trans (F.mono d0);have bu:=ac.below F ac.lt;have cc:=Qh (a9.out.belw F);have ca:=Qh (di.out.belw F);clear ds c8 ec x5 z5 q5 ac a9 di F;obtain ⟨gb,rfl⟩:=aS.row.some_ aC.out;obtain ⟨AM,np,cp,el,t,bb⟩:=aS.put aC.out;obtain ⟨r,rfl⟩:=t.some_ Y.out;obtain ⟨U,eh,bs,a6⟩:=t.raw;have bk:j<U.length:=by have:=(List.getElem?_eq_some_iff.1 Y.out).1;omega
 have ei:=bs j m U[j] Y.out (List.getElem?_eq_getElem bk);obtain ⟨mb,mA,mn,mc,mD,mm,me,et,es,ew,eA,eo,ep,ev,dO,_,_,ez⟩:=ei;have aT:U[j]?=some [aa m.name,.bool mb,.slice mA mn mc,.slice mD mm me,.bool et,.slice es ew eA,.slice eo ep ev]:=by rw [List.getElem?_eq_getElem bk,dO]
 have fa:i<n:=by rw [<- ej];exact (List.getElem?_eq_some_iff.1 aC.out).1
 have O:j<np:=by rw [<- t.1];exact (List.getElem?_eq_some_iff.1 Y.out).1
 have fp:np<=8:=by rw [<- t.1];exact (HF.out.ok.body b (List.mem_of_getElem? aC.out)).2.1
 obtain ⟨g1,v1,h1⟩:=t.cell (j:=1) O (by decide);obtain ⟨g2,v2,h2⟩:=t.cell (j:=2) O (by decide);obtain ⟨g3,v3,h3⟩:=t.cell (j:=3) O (by decide);obtain ⟨g4,v4,h4⟩:=t.cell (j:=4) O (by decide);obtain ⟨g5,v5,h5⟩:=t.cell (j:=5) O (by decide);obtain ⟨g6,v6,h6⟩:=t.cell (j:=6) O (by decide);obtain ⟨c0,c1,ab,c3⟩:=x6.c4;obtain ⟨a0,a1,a2⟩:=bu.c3;obtain ⟨a3,a4,a5⟩:=bv.c3;have e6:((i:Int)<(n:Int)):=by omega
 have fn:((j:Int)<(np:Int)):=by omega
 have W:=Qh (RwM.refl a6);have a7:=Qh bb;have bl:=Qh aT;have an:=Qh (And.intro eh (And.intro bs bk));have b9:=Qh aS
 have e8:B<=r:=by
  obtain ⟨_,xs,ho,_⟩:=t;exact (ho.at_ rfl).1
 clear aT dO bs eh a6 bb aS t;have eW:¬ r=w3.heap.size:=fun e=>W.out.row.neb bu (by decide) (by rw [<- e];rfl)
 have e4:¬ r=w5.heap.size:=fun e=>W.out.row.neb bv (by decide) (by rw [<- e];rfl)
 go_wp2_with fail;go_region
 all_goals
  first
  | (with_reducible change Exit.then _ _ _ _ (World.drew ((((((w6.setCell ⟨r,j*7+1,none⟩ (.bool vb)).setCell ⟨r,j*7+1+1,none⟩ (.slice vA vn vc)).setCell ⟨r,j*7+1+2,none⟩ (.slice vD vm ve)).setCell ⟨r,j*7+4,none⟩ (.bool ub)).setCell ⟨r,j*7+4+1,none⟩ (.slice uA un uc)).setCell ⟨r,j*7+4+2,none⟩ (.slice uD um ue)));generalize al:((((((w6.setCell ⟨r,j*7+1,none⟩ (.bool vb)).setCell ⟨r,j*7+1+1,none⟩ (.slice vA vn vc)).setCell ⟨r,j*7+1+2,none⟩ (.slice vD vm ve)).setCell ⟨r,j*7+4,none⟩ (.bool ub)).setCell ⟨r,j*7+4+1,none⟩ (.slice uA un uc)).setCell ⟨r,j*7+4+2,none⟩ (.slice uD um ue))=w7;have RM:RwM w6 B r np cp (U.set j [aa m.name,.bool vb,.slice vA vn vc,.slice vD vm ve,.bool ub,.slice uA un uc,.slice uD um ue]) w7:=by (rw [<- al];exact W.out.xy bl.out ⟨⟨rfl,rfl,rfl⟩,rfl,rfl,rfl⟩))
  | (with_reducible change Exit.then _ _ _ _ (World.drew ((((((w6.setCell ⟨r,j*7+4,none⟩ (.bool ub)).setCell ⟨r,j*7+4+1,none⟩ (.slice uA un uc)).setCell ⟨r,j*7+4+2,none⟩ (.slice uD um ue)).setCell ⟨r,j*7+1,none⟩ (.bool vb)).setCell ⟨r,j*7+1+1,none⟩ (.slice vA vn vc)).setCell ⟨r,j*7+1+2,none⟩ (.slice vD vm ve)));generalize al:((((((w6.setCell ⟨r,j*7+4,none⟩ (.bool ub)).setCell ⟨r,j*7+4+1,none⟩ (.slice uA un uc)).setCell ⟨r,j*7+4+2,none⟩ (.slice uD um ue)).setCell ⟨r,j*7+1,none⟩ (.bool vb)).setCell ⟨r,j*7+1+1,none⟩ (.slice vA vn vc)).setCell ⟨r,j*7+1+2,none⟩ (.slice vD vm ve))=w7;have RM:RwM w6 B r np cp (U.set j [aa m.name,.bool vb,.slice vA vn vc,.slice vD vm ve,.bool ub,.slice uA un uc,.slice uD um ue]) w7:=by (rw [<- al];exact W.out.yx bl.out ⟨⟨rfl,rfl,rfl⟩,rfl,rfl,rfl⟩))
  have cv:B<=w6.heap.size:=Nat.le_trans hB q6.size
  have a8:ap 56 (MkC 130) 7 w7 B (.slice (some ⟨r,0,none⟩) np cp) np (b.pts.set j ⟨m.name,rd r0,rd r1⟩):=RM.row.unraw (by rw [List.length_set,List.length_set];exact an.out.1) (fun k a cs ha hc=>by
   rw [List.getElem?_set] at ha hc;by_cases hk:j=k
   ·subst hk
    rw [if_pos rfl,if_pos (List.getElem?_eq_some_iff.1 Y.out).1] at ha;rw [if_pos rfl,if_pos an.out.2.2] at hc;injection ha with ha;injection hc with hc;subst ha hc;exact ⟨_,_,_,_,_,_,_,_,_,_,_,_,_,_,rfl,QD.tch cc.out RM.tch,QD.tch ca.out RM.tch,ez⟩
   rw [if_neg hk] at ha hc
   exact (an.out.2.1 k a cs ha hc).tch RM.tch)
  have eb:=a7.out w7 r ⟨b.name,b.pts.set j ⟨m.name,rd r0,rd r1⟩⟩ rfl RM.grw RM.tch rfl a8;have d8:LkY 130 w7 (some ⟨gb,0,none⟩) n c C p d D q e (mvL L i j b m r0 r1):=nG eb (b6.out.tch RM.tch (by decide) (fun _ _ y=>y)) (db.out.tch RM.tch (by decide) (fun _ _ y=>y)) em.out;have q7:Below B w w7:=q6.grown RM.grw cv (fun y hy=>by injection hy with hy;omega);have x7:Blk w7 w.heap.size 26 _:=RM.tch.2 _ _ _ _ x6 (.inl (by decide));have z7:Blk w7 (w.heap.size+1) 26 _:=RM.tch.2 _ _ _ _ z6 (.inl (by decide));have hd:Below w7.heap.size w7 w7.drew:=(ae w7).drew;have ao:=Qh (d8.blw hd);have x8:=x7.below hd x7.lt;have z8:=z7.below hd z7.lt;have q8:=q7.trans (hd.mono (Nat.le_trans hB q7.size));generalize w7.drew=w8 at ao x8 z8 q8 ⊢;clear al RM a8 eb d8 q7 x7 z7 hd a7 bl an W b9 x6 z6 q6 bu bv b6 db cc ca c0 c1 ab c3 a0 a1 a2 a3 a4 a5 h1 h2 h3 h4 h5 h6 g1 g2 g3 g4 g5 g6 el;obtain ⟨c0,c1,ab,c3⟩:=x8.c4;go_wp2_with fail;clear c0 c1 ab c3;have b7:Calls Tryz.prog 31 #[.agg #[aa L.name,.slice (some ⟨gb,0,none⟩) n c,.slice C p d,.slice D q e]] w8 (ax w8 (aV (aG (mvL L i j b m r0 r1)))):=dz w8 (some ⟨gb,0,none⟩) n c C p d D q e (mvL L i j b m r0 r1) 130 ao.out.out (by decide) (by decide) _ rfl;refine b7.mono ?_;rintro e' w9 ⟨rfl,P⟩;clear b7;have x9:=x8.below P x8.lt;have z9:=z8.below P z8.lt;have q9:=q8.trans (P.mono (Nat.le_trans hB q8.size));have ek:=Qh (ao.out.blw P);obtain ⟨b0,b1,b2,b3⟩:=z9.c4;obtain ⟨f0,f1,N,f3⟩:=z9.f4;obtain ⟨c0,c1,ab,c3⟩:=x9.c4;have eD:=x9.lt;have eQ:=z9.lt;clear x8 z8 q8 ao P;rcases ex.out with ⟨u,g,f⟩ | ⟨u,g,f⟩
  ·rw [eVp u]
   have o:=Qh (And.intro u (And.intro g f));clear u g f;go_wp2_with fail;refine bodyPost_ret (v:=.tuple #[.agg #[.string ⟨#[]⟩,.slice none 0 0,.slice none 0 0,.slice none 0 0],.iface 58 (.int .i64 (aG (mvL L i j b m r0 r1)))]) (by simp [results,Tryz.results37,go_sem, *] <;> trivial) rfl ?_;rw [o.out.2.1,o.out.2.2,eVp o.out.1];exact ⟨_,_,_,_,_,_,_,_,_,rfl,LkY.zero _ _,dd q9 (by omega) _ _ _ _⟩
  rw [u,aO];have o:=Qh (And.intro g f);clear u g f;go_wp2_with fail;have t9:=lp z9 ⟨rfl,rfl,rfl,rfl⟩ (aa L.name) (.slice (some ⟨gb,0,none⟩) n c) (.slice C p d) (.slice D q e);refine bodyPost_ret (v:=.tuple #[.agg #[aa L.name,.slice (some ⟨gb,0,none⟩) n c,.slice C p d,.slice D q e],.nilIface]) (by simp [results,Tryz.results37,go_sem, *] <;> trivial) rfl ?_;rw [o.out.1,o.out.2,aO];exact ⟨_,_,_,_,_,_,_,_,_,rfl,ek.out.tch t9 (by decide) (by decide) (by decide) (by decide),dd q9 (by omega) _ _ _ _⟩
def uk {α:Type}(f:α->List UInt8) (l:List α) (nm:List UInt8) (x:Int) (L' M:ag) (mk:Nat->ag):Prop:=(gI (l.map f) nm=-1/\x=5/\L'=M)\/∃ k:Nat,k<l.length/\gI (l.map f) nm=(k:Nat)/\x=0/\L'=mk k
theorem AZ {α:Type}(f:α->List UInt8) (l:List α) (nm:List UInt8) (M:ag) (mk:Nat->ag):∃ x L',uk f l nm x L' M mk:=by
 rcases idxN_cases (l.map f) nm with h | ⟨k,h,a⟩
 ·exact ⟨5,M,.inl ⟨h,rfl,rfl⟩⟩
 exact ⟨0,mk k,.inr ⟨k,by have:=(List.getElem?_eq_some_iff.1 a).1;simpa using this,h,rfl,rfl⟩⟩
def A0 (L:ag) (k:Nat):ag:=⟨L.name,L.bodies,L.joints.eraseIdx k,L.drivers⟩
def Ba (L:ag) (k:Nat):ag:=⟨L.name,L.bodies,L.joints,L.drivers.eraseIdx k⟩
inductive ApK (L:ag) (ed:bo) (x:Int) (L':ag):Prop
  | addN (hk:ed.kind=0) (hn:ed.name≠[]) (hx:x=2) (hl:L'=L0)
  | addO (hk:ed.kind=0) (hn:ed.name=[]) (ho:cP L≠0) (hx:x=cP L) (hl:L'=L0)
  | add (hk:ed.kind=0) (hn:ed.name=[]) (ho:cP L=0) (hr:eM (cO L++32::ed.text) x L')
  | ren (hk:ed.kind=4) (hr:uh L ed.name ed.text x L')
  | mv (hk:ed.kind=5) (hr:AY L ed.name ed.text x L')
  | none (h0:ed.kind<0\/5<ed.kind) (hx:x=7) (hl:L'=L0)
  | offT (hk:1<=ed.kind/\ed.kind<=3) (ht:ed.text≠[]) (hx:x=2) (hl:L'=L0)
  | rem (hk:ed.kind=1) (ht:ed.text=[]) (hr:ui L ed.name x L')
  | jt (hk:ed.kind=2) (ht:ed.text=[]) (hr:uk aF.name L.joints ed.name x L' L0 (A0 L))
  | dr (hk:ed.kind=3) (ht:ed.text=[]) (hr:uk aE.name L.drivers ed.name x L' L0 (Ba L))
theorem apK (L:ag) (ed:bo):∃ x a,ApK L ed x a:=by
 by_cases h:ed.kind<0\/5<ed.kind
 ·exact ⟨7,L0,.none h rfl rfl⟩
 by_cases h0:ed.kind=0
 ·by_cases hn:ed.name=[]
  ·by_cases ho:cP L=0
   ·obtain ⟨x,a,b⟩:=Cn (cO L++32::ed.text)
    exact ⟨x,a,.add h0 hn ho b⟩
   exact ⟨_,L0,.addO h0 hn ho rfl rfl⟩
  exact ⟨2,L0,.addN h0 hn rfl rfl⟩
 by_cases h4:ed.kind=4
 ·obtain ⟨x,a,b⟩:=ED L ed.name ed.text
  exact ⟨x,a,.ren h4 b⟩
 by_cases h5:ed.kind=5
 ·obtain ⟨x,a,b⟩:=FL L ed.name ed.text
  exact ⟨x,a,.mv h5 b⟩
 by_cases ht:ed.text=[]
 ·by_cases h1:ed.kind=1
  ·obtain ⟨x,a,b⟩:=EE L ed.name
   exact ⟨x,a,.rem h1 ht b⟩
  by_cases h2:ed.kind=2
  ·obtain ⟨x,a,b⟩:=AZ aF.name L.joints ed.name L0 (A0 L)
   exact ⟨x,a,.jt h2 ht b⟩
  obtain ⟨x,a,b⟩:=AZ aE.name L.drivers ed.name L0 (Ba L);exact ⟨x,a,.dr (by omega) ht b⟩
 exact ⟨2,L0,.offT (by omega) ht rfl rfl⟩
theorem JtC.ones {w:World}{cs:List Value}{a:aF}(h:JtC w cs a):∀ u∈cs,u.oneCell'=true:=by
 obtain ⟨c,_⟩:=h;subst c;intro u b;simp at b;rcases b with rfl | rfl | rfl | rfl | rfl | rfl | rfl <;> simp [Value.oneCell']
theorem DrC.ones {w:World}{cs:List Value}{a:aE}(h:DrC w cs a):∀ u∈cs,u.oneCell'=true:=by
 obtain ⟨c,_⟩:=h;subst c;intro u b;simp at b;rcases b with rfl | rfl <;> simp [Value.oneCell']
theorem JtC.any {w b:World}{cs:List Value}{a:aF}(h:JtC w cs a):JtC b cs a:=h
theorem DrC.any {w b:World}{cs:List Value}{a:aE}(h:DrC w cs a):DrC b cs a:=h
theorem CpO.tch {B:Nat}{w a:World}{A C D:Option Addr}{n c p d q e:Nat}{L:ag}{T:TypeId->Bool}(h:CpO B w A n c C p d D q e L) (t:Tch T w a) (g:T 56=false) (b:T 51=false) (i:T 81=false) (f:T 86=false):CpO B a A n c C p d D q e L:=⟨h.bd.tch t g b,h.jt.tch t i (fun _ _ x=>x),h.dr.tch t f (fun _ _ x=>x),h.nm⟩
theorem fq {w a:World}{z:Nat}{x:Int}{v:Value}(b:aV x=v) (h:Below w.heap.size w a) (c:w.heap.size<=z):gG w (aV x) L0 (.returned (.tuple #[.agg #[.string ⟨#[]⟩,.slice none 0 0,.slice none 0 0,.slice none 0 0],v])) ((((a.setCell ⟨z,0,none⟩ (.string ⟨#[]⟩)).setCell ⟨z,1,none⟩ (.slice none 0 0)).setCell ⟨z,2,none⟩ (.slice none 0 0)).setCell ⟨z,3,none⟩ (.slice none 0 0)):=by
 subst b;exact ⟨_,_,_,_,_,_,_,_,_,rfl,LkY.zero _ _,dd h c _ _ _ _⟩
theorem ls {w a:World}{z:Nat}{x:Int}{v:Value}{L:ag}{A C D:Option Addr}{n c p d q e:Nat}{g i j f:Value}(k:aV x=v) (l:Blk a z 26 #[g,i,j,f]) (b:noW g=true/\noW i=true/\noW j=true/\noW f=true) (m:LkY 130 a A n c C p d D q e L) (h:Below w.heap.size w a) (o:w.heap.size<=z):gG w (aV x) L (.returned (.tuple #[.agg #[aa L.name,.slice A n c,.slice C p d,.slice D q e],v])) ((((a.setCell ⟨z,0,none⟩ (aa L.name)).setCell ⟨z,1,none⟩ (.slice A n c)).setCell ⟨z,2,none⟩ (.slice C p d)).setCell ⟨z,3,none⟩ (.slice D q e)):=by
 subst k;exact ⟨_,_,_,_,_,_,_,_,_,rfl,m.tch (lp l b _ _ _ _) (by decide) (by decide) (by decide) (by decide),dd h o _ _ _ _⟩
theorem Dc (L:ag) (hL:aG L=0) (ed:bo) (hT:ed.text.length<=1000000) (x:Int) (L':ag) (hR:ApK L ed x L'):ApC L ed x L':=by
 intro w A n c C p d D q e a7 bs hY;have x0:Blk (((w.alloc (.cells #[aa L.name,.slice A n c,.slice C p d,.slice D q e] 26)).alloc (.cells #[.int .i64 ed.kind,aa ed.name,aa ed.text] 39)).alloc (.cells #[.string ⟨#[]⟩,.slice none 0 0,.slice none 0 0,.slice none 0 0] 26)) w.heap.size 26 #[aa L.name,.slice A n c,.slice C p d,.slice D q e]:=((Blk.new _ _ _).alloc _).alloc _;have y0:Blk (((w.alloc (.cells #[aa L.name,.slice A n c,.slice C p d,.slice D q e] 26)).alloc (.cells #[.int .i64 ed.kind,aa ed.name,aa ed.text] 39)).alloc (.cells #[.string ⟨#[]⟩,.slice none 0 0,.slice none 0 0,.slice none 0 0] 26)) (w.heap.size+1) 39 #[.int .i64 ed.kind,aa ed.name,aa ed.text]:=(ak _ _ _ (by simp)).alloc _;have z0:Blk (((w.alloc (.cells #[aa L.name,.slice A n c,.slice C p d,.slice D q e] 26)).alloc (.cells #[.int .i64 ed.kind,aa ed.name,aa ed.text] 39)).alloc (.cells #[.string ⟨#[]⟩,.slice none 0 0,.slice none 0 0,.slice none 0 0] 26)) (w.heap.size+1+1) 26 #[.string ⟨#[]⟩,.slice none 0 0,.slice none 0 0,.slice none 0 0]:=ak _ _ _ (by simp);have q0:=(((ae w).alloc Qr (.cells #[aa L.name,.slice A n c,.slice C p d,.slice D q e] 26)).alloc (by simp) (.cells #[.int .i64 ed.kind,aa ed.name,aa ed.text] 39)).alloc (by simp;omega) (.cells #[.string ⟨#[]⟩,.slice none 0 0,.slice none 0 0,.slice none 0 0] 26);have hF:=da hL;have cb:n<=8:=by rw [<- hY.bodies.1];exact hF.ok.nb
 have b4:p<=16:=by rw [<- hY.joints.1];exact hF.ok.nj
 have ca:q<=2:=by rw [<- hY.drivers.1];exact hF.ok.nd
 have H0:=Qh (hY.belw q0);have a9:=Qh a7;have HM:=Qh bs;have HR:=Qh hR;clear hR hY a7 bs hF;go_in;go_wp2_with fail;generalize (((w.alloc (.cells #[aa L.name,.slice A n c,.slice C p d,.slice D q e] 26)).alloc (.cells #[.int .i64 ed.kind,aa ed.name,aa ed.text] 39)).alloc (.cells #[.string ⟨#[]⟩,.slice none 0 0,.slice none 0 0,.slice none 0 0] 26))=w0 at x0 y0 z0 q0 H0 ⊢;refine (dz w0 A n c C p d D q e L 130 H0.out (by decide) (by decide) 0 hL).mono ?_;rintro e' V ⟨rfl,ad⟩;rw [aO];have x1:=x0.below ad x0.lt;have y1:=y0.below ad y0.lt;have z1:=z0.below ad z0.lt;have H1:=Qh (H0.out.belw ad);have q1:=q0.trans (ad.mono q0.size);obtain ⟨a0,a1,a2,a3⟩:=x1.c4;have a8:=dJ hL;have bb:=Qh (show n=L.bodies.length/\p=L.joints.length/\q=L.drivers.length from ⟨H1.out.bodies.1.symm,H1.out.joints.1.symm,H1.out.drivers.1.symm⟩);clear x0 y0 z0 q0 ad H0;go_wp2_with fail;refine (Es V A n c C p d D q e L H1.out a8).mono ?_;rintro e' w2 ⟨A2,n2,c2,C2,p2,d2,D2,r2,f2,rfl,al,ab⟩;obtain rfl:n=n2:=by rw [<- al.bd.1];exact bb.out.1
 obtain rfl:p=p2:=by rw [<- al.jt.1];exact bb.out.2.1
 obtain rfl:q=r2:=by rw [<- al.dr.1];exact bb.out.2.2
 have x2:=x1.below ab x1.lt;have y2:=y1.below ab y1.lt;have z2:=z1.below ab z1.lt;have q2:=q1.trans (ab.mono q1.size);have HC:=Qh al;have hB:V.heap.size<=w2.heap.size:=ab.size;have bk:w.heap.size+1+1<V.heap.size:=z1.lt;obtain ⟨f0,f1,M,f3⟩:=x2.f4;obtain ⟨c0,c1,K,c3⟩:=x2.c4;clear x1 y1 z1 q1 ab H1 a0 a1 a2 a3 al a8;go_upto_region 5 with fail;refine dl ?_;intro F ac;have t3:Tch (aW 26) w2 F:=by rw [ac];exact lp x2 ⟨rfl,rfl,rfl,rfl⟩ _ _ _ _
 have u:Hid (CpO V.heap.size F A2 n c2 C2 p d2 D2 q f2 L):=Qh (HC.out.tch t3 (by decide) (by decide) (by decide) (by decide));have q3:Below w.heap.size w F:=by rw [ac];exact dd q2 Qr _ _ _ _
 have far:∀ {g t:Nat}{cs:Array Value},Blk w2 g t cs->g≠w.heap.size->Blk F g t cs:=fun x a4=>by rw [ac];exact (((x.far (p:=⟨w.heap.size,0,none⟩) a4 _).far (p:=⟨w.heap.size,1,none⟩) a4 _).far (p:=⟨w.heap.size,2,none⟩) a4 _).far (p:=⟨w.heap.size,3,none⟩) a4 _
 have x3:Blk F w.heap.size 26 #[aa L.name,.slice A2 n c2,.slice C2 p d2,.slice D2 q f2]:=by rw [ac];exact x2.s4 _ _ _ _
 have Y:=far y2 (by omega);have l:=far z2 (by omega);have bv:F.heap.size=w2.heap.size:=by rw [ac];simp
 have aS:=Qh (a9.out.belw q3);have bl:=Qh (HM.out.belw q3);clear ac x2 y2 z2 q2 HC t3 far c0 c1 K c3 f0 f1 M f3 a9 HM;have bf:V.heap.size<=F.heap.size:=by omega
 have an:w.heap.size<=V.heap.size:=by omega
 clear hB bv;have i:F.cell? ⟨w.heap.size+1,0,none⟩=some (.int .i64 ed.kind):=Y.cell 0;have s:F.cell? ⟨w.heap.size+1,1,none⟩=some (aa ed.name):=Y.cell 1;have z:F.cell? ⟨w.heap.size+1,2,none⟩=some (aa ed.text):=Y.cell 2;obtain ⟨c0,c1,K,c3⟩:=x3.c4;have U:=x3.lt;have W:=l.lt;rcases HR.out with ⟨B,hn,o,m⟩ | ⟨B,hn,O,o,m⟩ | ⟨B,hn,O,P⟩ | ⟨B,P⟩ | ⟨B,P⟩ | ⟨B,o,m⟩ | ⟨B,ht,o,m⟩ | ⟨B,ht,P⟩ | ⟨B,ht,P⟩ | ⟨B,ht,P⟩
 ·have G:=Qh (And.intro o m)
  rw [B] at i;have n1:(ed.name=[])=False:=eq_false hn;have n2:(ed.name==[])=false:=by simpa using hn
  have n3:=aJ ed.name;clear o m HR;obtain ⟨b0,b1,b2,b3⟩:=l.c4;obtain ⟨f0,f1,M,f3⟩:=l.f4;go_wp2_with fail;refine bodyPost_ret (v:=.tuple #[.agg #[.string ⟨#[]⟩,.slice none 0 0,.slice none 0 0,.slice none 0 0],.iface 58 (.int .i64 2)]) (by simp [results,Tryz.results15,go_sem, *] <;> trivial) rfl ?_;rw [G.out.2];exact fq (by rw [G.out.1];exact eVp (by decide)) q3 (by omega)
 ·rw [B] at i
  rw [hn] at s;have E:=Qh (And.intro o (And.intro m O));clear HR o m O;go_wp2_with fail;refine (Da F A2 n c2 C2 p d2 D2 q f2 L (u.out.lkS.upto (by decide)) aS.out).mono ?_;rintro e' w4 ⟨rfl,b⟩;have y4:=Y.below b Y.lt;have Q:=l.below b l.lt;have q4:=q3.trans (b.mono q3.size);have br:=Qh (bl.out.belw b);clear i s z c0 c1 K c3 x3 Y l q3 b U W;rw [eVp E.out.2.2];obtain ⟨b0,b1,b2,b3⟩:=Q.c4;obtain ⟨f0,f1,M,f3⟩:=Q.f4;go_wp2_with fail;refine bodyPost_ret (v:=.tuple #[.agg #[.string ⟨#[]⟩,.slice none 0 0,.slice none 0 0,.slice none 0 0],.iface 58 (.int .i64 (cP L))]) (by simp [results,Tryz.results15,go_sem, *] <;> trivial) rfl ?_;rw [E.out.2.1];exact fq (by rw [E.out.1];exact eVp E.out.2.2) q4 (by omega)
 ·rw [B] at i
  rw [hn] at s;have E:=Qh (And.intro P O);clear HR P O;go_wp2_with fail;refine (Da F A2 n c2 C2 p d2 D2 q f2 L (u.out.lkS.upto (by decide)) aS.out).mono ?_;rintro e' w4 ⟨rfl,b⟩;have y4:=Y.below b Y.lt;have Q:=l.below b l.lt;have q4:=q3.trans (b.mono q3.size);have br:=Qh (bl.out.belw b);clear i s z c0 c1 K c3 x3 Y l q3 b U W;have e1:dR L=cO L:=if_pos E.out.2;rw [e1,E.out.2,aO];have g2:=y4.cell 2;have hS:(cO L++[32])++ed.text=cO L++32::ed.text:=by simp
  have m:(cO L).length<=65536:=by
   have O:=E.out.2;unfold cP at O;rw [if_neg (by simp [hL])] at O;split at O
   ·omega
   rename_i hh;omega
  have k1:(9223372036854775807<(cO L).length+1)=False:=eq_false (by omega);have k2:(9223372036854775807<(cO L).length+1+ed.text.length)=False:=eq_false (by omega);go_wp2_with fail
  have es:Value.string ((⟨(cO L).toArray⟩:ByteArray)++⟨#[32]⟩++⟨ed.text.toArray⟩)=aa (cO L++32::ed.text):=by
   rw [<- hS];congr 1
  rw [es];refine (sL w4 _ x L' br.out E.out.1).mono ?_;rintro e' w5 ⟨A3,n3,k3,C3,p3,d3,D3,r3,f3,rfl,r,f⟩;have R:=Q.below f Q.lt;have q5:=q4.trans (f.mono q4.size);have S:=Qh r;obtain ⟨a0,a1,a2,a3⟩:=R.c4;obtain ⟨b0,b1,b2,b3⟩:=R.f4;clear g2 y4 Q q4 f r es hS;go_wp2_with fail;refine bodyPost_ret (v:=.tuple #[.agg #[aa L'.name,.slice A3 n3 k3,.slice C3 p3 d3,.slice D3 r3 f3],aV x]) (by simp [results,Tryz.results15,go_sem, *] <;> trivial) rfl ?_;exact ls rfl R ⟨rfl,rfl,rfl,rfl⟩ S.out q5 (by omega)
 ·rw [B] at i
  have E:=Qh P;clear P HR;go_wp2_with fail;refine (AR F A2 n c2 C2 p d2 D2 q f2 L u.out.lkS hL ed.name ed.text (show ed.text.length<_ by omega) x L' E.out).mono ?_;rintro e' w5 ⟨A3,n3,k3,C3,p3,d3,D3,r3,f3,rfl,r,f⟩;have f:Below V.heap.size F w5:=f.mono bf;have R:Blk w5 (w.heap.size+1+1) 26 #[.string ⟨#[]⟩,.slice none 0 0,.slice none 0 0,.slice none 0 0]:=l.below f bk;have q5:=q3.trans (f.mono an);have S:=Qh r;obtain ⟨a0,a1,a2,a3⟩:=R.c4;obtain ⟨b0,b1,b2,b3⟩:=R.f4;clear i s z c0 c1 K c3 x3 Y l q3 f r U W;go_wp2_with fail;refine bodyPost_ret (v:=.tuple #[.agg #[aa L'.name,.slice A3 n3 k3,.slice C3 p3 d3,.slice D3 r3 f3],aV x]) (by simp [results,Tryz.results15,go_sem, *] <;> trivial) rfl ?_;exact ls rfl R ⟨rfl,rfl,rfl,rfl⟩ S.out q5 (by omega)
 ·rw [B] at i
  have E:=Qh P;clear P HR;go_wp2_with fail;refine (EF F V.heap.size bf A2 n c2 C2 p d2 D2 q f2 L u.out hL bl.out ed.name ed.text x L' E.out).mono ?_;rintro e' w5 ⟨A3,n3,k3,C3,p3,d3,D3,r3,f3,rfl,r,f⟩;have f:Below V.heap.size F w5:=f;have R:Blk w5 (w.heap.size+1+1) 26 #[.string ⟨#[]⟩,.slice none 0 0,.slice none 0 0,.slice none 0 0]:=l.below f bk;have q5:=q3.trans (f.mono an);have S:=Qh r;obtain ⟨a0,a1,a2,a3⟩:=R.c4;obtain ⟨b0,b1,b2,b3⟩:=R.f4;clear i s z c0 c1 K c3 x3 Y l q3 f r U W;go_wp2_with fail;refine bodyPost_ret (v:=.tuple #[.agg #[aa L'.name,.slice A3 n3 k3,.slice C3 p3 d3,.slice D3 r3 f3],aV x]) (by simp [results,Tryz.results15,go_sem, *] <;> trivial) rfl ?_;exact ls rfl R ⟨rfl,rfl,rfl,rfl⟩ S.out q5 (by omega)
 ·have G:=Qh (And.intro o m)
  have b9:(ed.kind=0)=False:=eq_false (by omega);have cr:(ed.kind==0)=false:=by simp;omega
  have cc:(ed.kind=4)=False:=eq_false (by omega);have b5:(ed.kind==4)=false:=by simp;omega
  have cm:(ed.kind=5)=False:=eq_false (by omega);have b8:(ed.kind==5)=false:=by simp;omega
  have b7:(ed.kind=1)=False:=eq_false (by omega);have cn:(ed.kind==1)=false:=by simp;omega
  have b6:(ed.kind=2)=False:=eq_false (by omega);have ck:(ed.kind==2)=false:=by simp;omega
  have cp:(ed.kind=3)=False:=eq_false (by omega);have ch:(ed.kind==3)=false:=by simp;omega
  clear o m HR;obtain ⟨b0,b1,b2,b3⟩:=l.c4;obtain ⟨f0,f1,M,f3⟩:=l.f4;go_wp2_with fail;refine bodyPost_ret (v:=.tuple #[.agg #[.string ⟨#[]⟩,.slice none 0 0,.slice none 0 0,.slice none 0 0],.iface 58 (.int .i64 7)]) (by simp [results,Tryz.results15,go_sem, *] <;> trivial) rfl ?_;rw [G.out.2];exact fq (by rw [G.out.1];exact eVp (by decide)) q3 (by omega)
 ·have G:=Qh (And.intro o m)
  clear o m HR;obtain B | B | B:ed.kind=1\/ed.kind=2\/ed.kind=3:=by omega
  all_goals
   rw [B] at i;have n1:(ed.text=[])=False:=eq_false ht;have n2:(ed.text==[])=false:=by simpa using ht
   have n3:=aJ ed.text;obtain ⟨b0,b1,b2,b3⟩:=l.c4;obtain ⟨f0,f1,M,f3⟩:=l.f4;go_wp2_with fail;refine bodyPost_ret (v:=.tuple #[.agg #[.string ⟨#[]⟩,.slice none 0 0,.slice none 0 0,.slice none 0 0],.iface 58 (.int .i64 2)]) (by simp [results,Tryz.results15,go_sem, *] <;> trivial) rfl ?_;rw [G.out.2];exact fq (by rw [G.out.1];exact eVp (by decide)) q3 (by omega)
 ·rw [B] at i
  rw [ht] at z;have E:=Qh P;clear P HR;go_wp2_with fail;refine (AW F V.heap.size bf A2 n c2 C2 p d2 D2 q f2 L u.out hL ed.name x L' E.out).mono ?_;rintro e' w5 ⟨A3,n3,k3,C3,p3,d3,D3,r3,f3,rfl,r,f⟩;have f:Below V.heap.size F w5:=f;have R:Blk w5 (w.heap.size+1+1) 26 #[.string ⟨#[]⟩,.slice none 0 0,.slice none 0 0,.slice none 0 0]:=l.below f bk;have q5:=q3.trans (f.mono an);have S:=Qh r;obtain ⟨a0,a1,a2,a3⟩:=R.c4;obtain ⟨b0,b1,b2,b3⟩:=R.f4;clear i s z c0 c1 K c3 x3 Y l q3 f r U W;go_wp2_with fail;refine bodyPost_ret (v:=.tuple #[.agg #[aa L'.name,.slice A3 n3 k3,.slice C3 p3 d3,.slice D3 r3 f3],aV x]) (by simp [results,Tryz.results15,go_sem, *] <;> trivial) rfl ?_;exact ls rfl R ⟨rfl,rfl,rfl,rfl⟩ S.out q5 (by omega)
 ·rw [B] at i
  rw [ht] at z;have E:=Qh P;clear P HR;go_wp2_with fail;refine (AB F C2 p d2 L.joints u.out.jt.jts (by omega) (w.heap.size+1) ed.name s).mono ?_;rintro e' w4 ⟨rfl,b⟩;have x4:=x3.below b x3.lt;have Q:=l.below b l.lt;have q4:=q3.trans (b.mono q3.size);have H:=Qh (u.out.tch (T:=fun _=>false) (Tch.below b) rfl rfl rfl rfl);have bn:=b.size;clear i s z c0 c1 K c3 x3 Y l q3 b U W;rcases E.out with ⟨hi,o,m⟩ | ⟨k,aT,hi,o,m⟩
  ·rw [hi]
   have G:=Qh (And.intro o m);clear o m hi;obtain ⟨b0,b1,b2,b3⟩:=Q.c4;obtain ⟨f0,f1,M,f3⟩:=Q.f4;go_wp2_with fail;refine bodyPost_ret (v:=.tuple #[.agg #[.string ⟨#[]⟩,.slice none 0 0,.slice none 0 0,.slice none 0 0],.iface 58 (.int .i64 5)]) (by simp [results,Tryz.results15,go_sem, *] <;> trivial) rfl ?_;rw [G.out.2];exact fq (by rw [G.out.1];exact eVp (by decide)) q4 (by omega)
  rw [hi];have bu:k<p:=by rw [<- H.out.jt.1];exact aT
  have G:=Qh (And.intro o m);obtain ⟨I,eA⟩:=H.out.jt.some_ (List.getElem?_eq_getElem aT);have j:=H.out;rw [eA] at j;have N:=Qh j.jt;have ao:=Qh j.bd.row;have a6:=Qh j.jt;have a5:=Qh j.dr;have bg:=Qh j.nm;rw [eA] at x4;clear o m hi E H u j;obtain ⟨a0,a1,a2,a3⟩:=x4.c4;have bY:((k:Int)<0)=False:=by simp
  go_wp2_with fail;clear a0 a1 a2 a3;refine (Au w4 V.heap.size I p d2 k L.joints N.out (fun w cs a h=>h.ones) (by omega) (by omega) (fun w' cs a t h=>h.any)).mono ?_;rintro e' J ⟨rfl,R6,X⟩
  have Z:Tch (aW 81) w4 J:=by
   obtain ⟨_,xs,O,_⟩:=N.out;exact Tch.grown (fun _ hu=>hu) (by simp [aW]) O X
  have bw:V.heap.size<=I:=by
   obtain ⟨_,xs,O,_⟩:=N.out;exact (O.at_ rfl).1
  have x6:Blk J w.heap.size 26 _:=Z.2 _ _ _ _ x4 (.inl (by decide));have z6:Blk J (w.heap.size+1+1) 26 _:=Z.2 _ _ _ _ Q (.inl (by decide));have q6:Below w.heap.size w J:=q4.grown X (by omega) (fun y h=>by injection h with h;omega);have aC:=Qh (show LkY 130 J A2 n c2 (some ⟨I,0,none⟩) (p-1) d2 D2 q f2 (A0 L k) from nG (ao.out.tch Z (by decide) (fun _ _ y=>y.tch Z (by decide))) R6 (a5.out.tch Z (by decide) (fun _ _ y=>y)) bg.out);have x7:=x6.set_at 2 (.slice (some ⟨I,0,none⟩) (p-1) d2) #[aa L.name,.slice A2 n c2,.slice (some ⟨I,0,none⟩) (p-1) d2,.slice D2 q f2] rfl;have t7:Tch (aW 26) J (J.setCell ⟨w.heap.size,2,none⟩ (.slice (some ⟨I,0,none⟩) (p-1) d2)):=Tch.set x6 (by simp [aW]) rfl 2 _;have z7:Blk (J.setCell ⟨w.heap.size,2,none⟩ (.slice (some ⟨I,0,none⟩) (p-1) d2)) (w.heap.size+1+1) 26 #[.string ⟨#[]⟩,.slice none 0 0,.slice none 0 0,.slice none 0 0]:=z6.far (p:=⟨w.heap.size,2,none⟩) (by show w.heap.size+1+1≠w.heap.size;omega) _;have q7:Below w.heap.size w (J.setCell ⟨w.heap.size,2,none⟩ (.slice (some ⟨I,0,none⟩) (p-1) d2)):=q6.setCell (p:=⟨w.heap.size,2,none⟩) Qr _;have HE:=Qh (ls (L:=A0 L k) (x:=0) aO z7 ⟨rfl,rfl,rfl,rfl⟩ (aC.out.tch t7 (by decide) (by decide) (by decide) (by decide)) q7 (show w.heap.size<=w.heap.size+1+1 by omega));obtain ⟨a0,a1,a2,a3⟩:=x6.c4;obtain ⟨g0,g1,g2,g3⟩:=x6.f4;obtain ⟨b0,b1,b2,b3⟩:=z6.c4;obtain ⟨f0,f1,M,f3⟩:=z6.f4;have bz:=x6.lt;have bx:=z6.lt;clear N ao a6 a5 R6 x6 z6 x7 z7 q7 q6 Z t7 X aC x4 Q q4;go_wp2_with fail;refine bodyPost_ret (v:=.tuple #[.agg #[aa L.name,.slice A2 n c2,.slice (some ⟨I,0,none⟩) (p-1) d2,.slice D2 q f2],.nilIface]) (by simp [results,Tryz.results15,go_sem, *] <;> trivial) rfl ?_;rw [G.out.1,G.out.2];exact HE.out
 rw [B] at i;rw [ht] at z;have E:=Qh P;clear P HR;go_wp2_with fail;refine (AD F D2 q f2 L.drivers u.out.dr.drs (by omega) (w.heap.size+1) ed.name s).mono ?_;rintro e' w4 ⟨rfl,b⟩;have x4:=x3.below b x3.lt;have Q:=l.below b l.lt;have q4:=q3.trans (b.mono q3.size);have H:=Qh (u.out.tch (T:=fun _=>false) (Tch.below b) rfl rfl rfl rfl);have bn:=b.size;clear i s z c0 c1 K c3 x3 Y l q3 b U W;rcases E.out with ⟨hi,o,m⟩ | ⟨k,aT,hi,o,m⟩
 ·rw [hi]
  have G:=Qh (And.intro o m);clear o m hi;obtain ⟨b0,b1,b2,b3⟩:=Q.c4;obtain ⟨f0,f1,M,f3⟩:=Q.f4;go_wp2_with fail;refine bodyPost_ret (v:=.tuple #[.agg #[.string ⟨#[]⟩,.slice none 0 0,.slice none 0 0,.slice none 0 0],.iface 58 (.int .i64 5)]) (by simp [results,Tryz.results15,go_sem, *] <;> trivial) rfl ?_;rw [G.out.2];exact fq (by rw [G.out.1];exact eVp (by decide)) q4 (by omega)
 rw [hi];have bu:k<q:=by rw [<- H.out.dr.1];exact aT
 have G:=Qh (And.intro o m);obtain ⟨I,eA⟩:=H.out.dr.some_ (List.getElem?_eq_getElem aT);have j:=H.out;rw [eA] at j;have N:=Qh j.dr;have ao:=Qh j.bd.row;have a6:=Qh j.jt;have a5:=Qh j.dr;have bg:=Qh j.nm;rw [eA] at x4;clear o m hi E H u j;obtain ⟨a0,a1,a2,a3⟩:=x4.c4;have bY:((k:Int)<0)=False:=by simp
 go_wp2_with fail;clear a0 a1 a2 a3;refine (Av w4 V.heap.size I q f2 k L.drivers N.out (fun w cs a h=>h.ones) (by omega) (by omega) (fun w' cs a t h=>h.any)).mono ?_;rintro e' J ⟨rfl,R6,X⟩
 have Z:Tch (aW 86) w4 J:=by
  obtain ⟨_,xs,O,_⟩:=N.out;exact Tch.grown (fun _ hu=>hu) (by simp [aW]) O X
 have bw:V.heap.size<=I:=by
  obtain ⟨_,xs,O,_⟩:=N.out;exact (O.at_ rfl).1
 have x6:Blk J w.heap.size 26 _:=Z.2 _ _ _ _ x4 (.inl (by decide));have z6:Blk J (w.heap.size+1+1) 26 _:=Z.2 _ _ _ _ Q (.inl (by decide));have q6:Below w.heap.size w J:=q4.grown X (by omega) (fun y h=>by injection h with h;omega);have aC:=Qh (show LkY 130 J A2 n c2 C2 p d2 (some ⟨I,0,none⟩) (q-1) f2 (Ba L k) from nG (ao.out.tch Z (by decide) (fun _ _ y=>y.tch Z (by decide))) (a6.out.tch Z (by decide) (fun _ _ y=>y)) R6 bg.out);have x7:=x6.set_at 3 (.slice (some ⟨I,0,none⟩) (q-1) f2) #[aa L.name,.slice A2 n c2,.slice C2 p d2,.slice (some ⟨I,0,none⟩) (q-1) f2] rfl;have t7:Tch (aW 26) J (J.setCell ⟨w.heap.size,3,none⟩ (.slice (some ⟨I,0,none⟩) (q-1) f2)):=Tch.set x6 (by simp [aW]) rfl 3 _;have z7:Blk (J.setCell ⟨w.heap.size,3,none⟩ (.slice (some ⟨I,0,none⟩) (q-1) f2)) (w.heap.size+1+1) 26 #[.string ⟨#[]⟩,.slice none 0 0,.slice none 0 0,.slice none 0 0]:=z6.far (p:=⟨w.heap.size,3,none⟩) (by show w.heap.size+1+1≠w.heap.size;omega) _;have q7:Below w.heap.size w (J.setCell ⟨w.heap.size,3,none⟩ (.slice (some ⟨I,0,none⟩) (q-1) f2)):=q6.setCell (p:=⟨w.heap.size,3,none⟩) Qr _;have HE:=Qh (ls (L:=Ba L k) (x:=0) aO z7 ⟨rfl,rfl,rfl,rfl⟩ (aC.out.tch t7 (by decide) (by decide) (by decide) (by decide)) q7 (show w.heap.size<=w.heap.size+1+1 by omega));obtain ⟨a0,a1,a2,a3⟩:=x6.c4;obtain ⟨g0,g1,g2,g3⟩:=x6.f4;obtain ⟨b0,b1,b2,b3⟩:=z6.c4;obtain ⟨f0,f1,M,f3⟩:=z6.f4;have bz:=x6.lt;have bx:=z6.lt;clear N ao a6 a5 R6 x6 z6 x7 z7 q7 q6 Z t7 X aC x4 Q q4;go_wp2_with fail;refine bodyPost_ret (v:=.tuple #[.agg #[aa L.name,.slice A2 n c2,.slice C2 p d2,.slice (some ⟨I,0,none⟩) (q-1) f2],.nilIface]) (by simp [results,Tryz.results15,go_sem, *] <;> trivial) rfl ?_;rw [G.out.1,G.out.2];exact HE.out
theorem FM (L:ag) (k:aG L≠0) (ed:bo):ApC L ed (aG L) L0:=by
 intro w A n c C p d D q e f i l;have g:Blk (((w.alloc (.cells #[aa L.name,.slice A n c,.slice C p d,.slice D q e] 26)).alloc (.cells #[.int .i64 ed.kind,aa ed.name,aa ed.text] 39)).alloc (.cells #[.string ⟨#[]⟩,.slice none 0 0,.slice none 0 0,.slice none 0 0] 26)) (w.heap.size+1+1) 26 #[.string ⟨#[]⟩,.slice none 0 0,.slice none 0 0,.slice none 0 0]:=ak _ _ _ (by simp);have b:=(((ae w).alloc Qr (.cells #[aa L.name,.slice A n c,.slice C p d,.slice D q e] 26)).alloc (by simp) (.cells #[.int .i64 ed.kind,aa ed.name,aa ed.text] 39)).alloc (by simp;omega) (.cells #[.string ⟨#[]⟩,.slice none 0 0,.slice none 0 0,.slice none 0 0] 26);have h:=Qh (l.belw b);have m:=Qh k;clear l f i k;go_in;go_wp2_with fail;generalize (((w.alloc (.cells #[aa L.name,.slice A n c,.slice C p d,.slice D q e] 26)).alloc (.cells #[.int .i64 ed.kind,aa ed.name,aa ed.text] 39)).alloc (.cells #[.string ⟨#[]⟩,.slice none 0 0,.slice none 0 0,.slice none 0 0] 26))=w0 at g b h ⊢;refine (dz w0 A n c C p d D q e L 130 h.out (by decide) (by decide) (aG L) rfl).mono ?_;rintro t r ⟨rfl,a⟩;have j:=g.below a g.lt;have q1:=b.trans (a.mono b.size);rw [eVp m.out];have b0:=j.c4;obtain ⟨s,f1,o,f3⟩:=j.f4;clear g b a h;go_wp2_with fail;refine bodyPost_ret (v:=.tuple #[.agg #[.string ⟨#[]⟩,.slice none 0 0,.slice none 0 0,.slice none 0 0],.iface 58 (.int .i64 (aG L))]) (by simp [results,Tryz.results15,go_sem, *] <;> trivial) rfl ?_;exact fq (eVp m.out) q1 (by omega)
theorem gH.erB {L:ag}(h:gH L) (k:Nat):gH (CI L k) :=
 ⟨fun b hb=>h.ok b (List.mem_of_mem_eraseIdx hb),Nat.le_trans (List.length_eraseIdx_le _ _) h.nb,by show (L.joints.map _).length<=_;rw [List.length_map];exact h.nj,by show (L.drivers.map _).length<=_;rw [List.length_map];exact h.nd,fun b hb=>h.np b (List.mem_of_mem_eraseIdx hb)⟩
theorem gH.erJ {L:ag}(h:gH L) (k:Nat):gH (A0 L k):=⟨h.ok,h.nb,Nat.le_trans (List.length_eraseIdx_le _ _) h.nj,h.nd,h.np⟩
theorem gH.erD {L:ag}(h:gH L) (k:Nat):gH (Ba L k):=⟨h.ok,h.nb,h.nj,Nat.le_trans (List.length_eraseIdx_le _ _) h.nd,h.np⟩
theorem kJ (L:ag) (ed:bo) (p:ed.text.length<=1000000):∃ x g,ApC L ed x g/\(x=0->gH g):=by
 by_cases hL:aG L=0
 ·obtain ⟨x,g,h⟩:=apK L ed
  have n:=dJ hL;refine ⟨x,g,Dc L hL ed p x g h,fun a=>?_⟩;subst a;rcases h with ⟨_,_,a,_⟩ | ⟨_,_,o,a,_⟩ | ⟨_,_,_,f⟩ | ⟨_,f⟩ | ⟨_,f⟩ | ⟨_,a,_⟩ | ⟨_,_,a,_⟩ | ⟨_,_,f⟩ | ⟨_,_,f⟩ | ⟨_,_,f⟩
  ·cases a
  ·exact absurd a.symm o
  ·rcases f with ⟨_,_,a,_⟩ | ⟨_,_,_,a,_⟩ | ⟨_,_,_,_,a,_⟩ | ⟨_,_,_,q,_,d⟩
   ·exact absurd rfl a
   ·exact absurd rfl a
   ·exact absurd rfl a
   rw [d];exact dJ q
  ·rcases f with ⟨_,a,_⟩ | ⟨_,_,_,_,⟨c,a,_⟩ | ⟨c,_,d⟩⟩
   ·cases a
   ·exact absurd a.symm c
   rw [d];exact dJ c
  ·obtain ⟨u,i,j,_,⟨c,a,_⟩ | ⟨_,b,m,_,_,t,l,_,⟨c,a,_⟩ | ⟨_,⟨_,a,_⟩ | ⟨w,s,_,_,_,x0,r,_,⟨c,a,_⟩ | ⟨_,v,q1,_,⟨c,a,_⟩ | ⟨_,⟨c,a,_⟩ | ⟨c,_,d⟩⟩⟩⟩⟩⟩⟩:=f
   ·exact absurd a.symm c
   ·exact absurd a.symm c
   ·cases a
   ·exact absurd a.symm c
   ·exact absurd a.symm c
   ·exact absurd a.symm c
   rw [d];exact dJ c
  ·cases a
  ·cases a
  ·rcases f with ⟨_,a,_⟩ | ⟨_,a,_⟩ | ⟨k,_,_,_,⟨_,a,_⟩ | ⟨_,⟨_,a,_⟩ | ⟨_,_,d⟩⟩⟩
   ·cases a
   ·cases a
   ·cases a
   ·cases a
   rw [d];exact n.erB k
  ·rcases f with ⟨_,a,_⟩ | ⟨k,_,_,_,d⟩
   ·cases a
   rw [d];exact n.erJ k
  rcases f with ⟨_,a,_⟩ | ⟨k,_,_,_,d⟩
  ·cases a
  rw [d];exact n.erD k
 exact ⟨_,L0,FM L hL ed,fun h=>absurd h hL⟩
def oj (ed:bo):Prop:=ed.name.length<=4000/\ed.text.length<=4000
structure cQ (l:ag) (m:Nat) (g:bQ):Prop where
  len:g.before.length=g.done.length
  inv:∀ L∈g.before++[g.now],gH L
  st:(g.before++[g.now])[0]?=some l
  ch:∀ (i:Nat) a b ed,(g.before++[g.now])[i]?=some a->(g.before++[g.now])[i+1]?=some b->g.done[i]?=some ed->ApC a ed 0 b
  sm:∀ ed∈g.done++g.undone,oj ed
  nl:g.done.length+g.undone.length<=m
theorem cQ.now_ {l:ag}{m:Nat}{g:bQ}(h:cQ l m g):gH g.now:=h.inv _ (by simp)
theorem cQ.new {l:ag}(h:gH l):cQ l 0 ⟨l,[],[],[]⟩:=⟨rfl,fun L c=>by simp at c;rw [c];exact h,rfl,fun i a b ed _ d _=>by simp at d,fun ed h=>by simp at h,Qr⟩
theorem cQ.more {l:ag}{m k:Nat}{g:bQ}(h:cQ l m g) (a:m<=k):cQ l k g:=⟨h.len,h.inv,h.st,h.ch,h.sm,Nat.le_trans h.nl a⟩
theorem cQ.add {l j:ag}{m k:Nat}{g:bQ}{ed:bo}{un:List bo}(h:cQ l m g) (v:ApC g.now ed 0 j) (r:gH j) (t:oj ed) (s:∀ x∈un,oj x) (u:g.done.length+1+un.length<=k):cQ l k ⟨j,g.before++[g.now],g.done++[ed],un⟩:=by
 have p:=h.len;refine ⟨by simp [p],fun L w=>?_,?_,fun i a b e f hb c=>?_,fun e c=>?_,by simp only [List.length_append,List.length_singleton];exact u⟩
 ·rcases List.mem_append.1 w with d | d
  ·exact h.inv L d
  simp at d;rw [d];exact r
 ·show ((g.before++[g.now])++[j])[0]?=some l
  rw [List.getElem?_append_left (by simp)];exact h.st
 ·have f:((g.before++[g.now])++[j])[i]?=some a:=f
  have hb:((g.before++[g.now])++[j])[i+1]?=some b:=hb;have c:(g.done++[ed])[i]?=some e:=c;rcases Nat.lt_or_ge i g.done.length with q | q
  ·rw [List.getElem?_append_left (by simp;omega)] at f hb
   rw [List.getElem?_append_left q] at c;exact h.ch i a b e f hb c
  ·have o:i=g.done.length:=by
    have:=(List.getElem?_eq_some_iff.1 c).1;simp at this;omega
   subst o;rw [List.getElem?_append_left (by simp;omega),List.getElem?_append_right (by omega)] at f;rw [List.getElem?_append_right (by simp;omega)] at hb;rw [List.getElem?_append_right Qr] at c;simp [p] at f hb c;subst f hb c;exact v
 rcases List.mem_append.1 c with d | d
 ·rcases List.mem_append.1 d with n | n
  ·exact h.sm e (List.mem_append_left _ n)
  simp at n;rw [n];exact t
 exact s e d
theorem cQ.cut {l f:ag}{m k:Nat}{g:bQ}{p:bo}(h:cQ l m g) (u:g.done.length=k+1) (n:g.before[k]?=some f) (s:g.done[k]?=some p):cQ l m ⟨f,g.before.take k,g.done.take k,g.undone++[p]⟩:=by
 have t:=h.len
 have hb:g.before.take k++[f]=g.before:=by
  have:=List.take_add_one (l:=g.before) (i:=k);rw [n] at this;rw [show [f]=(some f).toList from rfl,<- this];exact List.take_of_length_le (by omega)
 have r:∀ (i:Nat) (a:ag),g.before[i]?=some a->(g.before++[g.now])[i]?=some a:=fun i a j=>by
  rw [List.getElem?_append_left (List.getElem?_eq_some_iff.1 j).1];exact j
 have v:k<g.before.length:=by omega
 refine ⟨by simp;omega,fun L n=>?_,?_,fun i a b e j d c=>?_,fun e c=>?_,by simp;have:=h.nl;omega⟩
 ·have n:L∈g.before.take k++[f]:=n
  rw [hb] at n;exact h.inv L (List.mem_append_left _ n)
 ·show (g.before.take k++[f])[0]?=some l
  rw [hb];have:=h.st;rw [List.getElem?_append_left (by omega)] at this;exact this
 ·have j:(g.before.take k++[f])[i]?=some a:=j
  have d:(g.before.take k++[f])[i+1]?=some b:=d;have c:(g.done.take k)[i]?=some e:=c;rw [hb] at j d;rw [List.getElem?_take] at c;split at c
  ·exact h.ch i a b e (r _ _ j) (r _ _ d) c
  cases c
 rcases List.mem_append.1 c with q | q
 ·exact h.sm e (List.mem_append_left _ (List.mem_of_mem_take q))
 rcases List.mem_append.1 q with o | o
 ·exact h.sm e (List.mem_append_right _ o)
 simp at o;rw [o];exact h.sm p (List.mem_append_left _ (List.mem_of_getElem? s))
structure bX where
  what:Int
  ed:bo
theorem sY:ApC frL crE 0 oi:=Dc frL qO crE (by decide) 0 oi (.add rfl rfl CF CG)
theorem FN (s a b c:Value) (w:World):(Instr.field 26 (.agg #[s,a,b,c]) 1).run Tryz.prog w=.ok a w:=by kernel_rfl
theorem FO (s a b c:Value) (w:World):(Instr.field 26 (.agg #[s,a,b,c]) 2).run Tryz.prog w=.ok b w:=by kernel_rfl
theorem ci (w:World) (b:Tab w) (D:Mx w):Calls Tryz.prog 8 #[] w (ax w (.bool true)):=by
 have c:=Qh b;have R:=Qh D;have ac:=FN;have ab:=FO;clear b D;go_in;go_wp2_with fail;refine (CH w).mono ?_;rintro a w1 ⟨g1,rfl,W,H⟩;have q1:=H;go_wp2_with fail;refine (vM (fun x=>x<w.heap.size) w.heap.size w1 (some ⟨g1,0,none⟩) 1 1 none 0 0 none 0 0 frL (W.upto (by decide)) qO q1.size (fun x hx=>Nat.lt_of_lt_of_le hx q1.size)).mono ?_;rintro a w2 ⟨l,rfl,y,v⟩;have q2:=q1.trans (v.mono q1.size);clear W H q1 v;go_wp2_with fail;refine (vL w2).mono ?_;rintro a w3 ⟨rfl,i⟩;have A:=y.blw i;have q3:=q2.trans (i.mono q2.size);clear y q2 i;go_wp2_with fail;refine (CA _ _ w3 l _ A crE 0 oi sY (by decide) (c.out.belw q3) (R.out.belw q3)).mono ?_;rintro a w4 ⟨rfl,_,V⟩;rw [aO];obtain ⟨Z,k⟩:=V rfl;have Q:=q3.trans Z.bel;clear A q3 Z V;go_wp2_with fail;refine (kB _ _ w4 l _ k (dJ kE)).mono ?_;rintro a w5 ⟨A5,n5,c5,C5,p5,d5,D5,k5,f5,rfl,r,m⟩;obtain rfl:2=n5:=r.len.1;have q:=k.blw m;have X:=Q.trans (m.mono Q.size);clear k Q m r;go_wp2_with fail;refine (qI _ _ w5 l _ q 0 rfl frL rfl crE rfl (by decide) (by decide)).mono ?_;rintro a w6 ⟨rfl,_,h6⟩;rw [aO];obtain ⟨S,o⟩:=h6 rfl;have P:=X.trans S.bel;clear q X S h6;go_wp2_with fail;refine (kB _ _ w6 l _ o (dJ qO)).mono ?_;rintro a w7 ⟨A7,n7,c7,C7,p7,d7,D7,k7,f7,rfl,F,n⟩;obtain rfl:1=n7:=F.len.1;have B:=o.blw n;have J:=P.trans (n.mono P.size);clear o P n F;go_wp2_with fail;refine (qL _ _ w7 l _ B 0 rfl crE rfl 0 oi sY (by decide) (by decide) (c.out.belw J) (R.out.belw J)).mono ?_;rintro a w8 ⟨rfl,_,Y⟩;rw [aO];obtain ⟨r8,f⟩:=Y rfl;have N:=J.trans r8.bel;clear B J r8 Y;go_wp2_with fail;refine (kB _ _ w8 l _ f (dJ kE)).mono ?_;rintro a w9 ⟨A9,n9,c9,C9,p9,d9,D9,k9,f9,rfl,E,g⟩;obtain rfl:1=p9:=E.len.2.1;have z:=f.blw g;have L:=N.trans (g.mono N.size);clear f N g E;go_wp2_with fail;refine (qK _ _ w9 l _ z (by decide)).mono ?_;rintro a wa ⟨T,U,rfl,t,G⟩;have M:=L.trans (G.mono L.size);clear z L G;go_wp2_with fail;refine (vL wa).mono ?_;rintro a C ⟨rfl,d⟩;have O:=M.trans (d.mono M.size);have u:=t.ed d;clear t M d;go_wp2_with fail;have K:=(ae C).alloc Qr (.cells #[.int .i64 crE.kind,aa crE.name,aa crE.text] 39);have p:=Blk.new C 39 #[.int .i64 crE.kind,aa crE.name,aa crE.text];have j:SlS gh 3 _ T 1 U [crE]:=u.ed K;have I:=O.trans (K.mono O.size);have h:SlS gh 3 _ (some ⟨C.heap.size,0,none⟩) 1 1 [crE]:=Fp p.lt ⟨p.cell 0,p.cell 1,p.cell 2⟩;generalize (C.alloc (.cells #[.int .i64 crE.kind,aa crE.name,aa crE.text] 39))=wc at p j I h K ⊢;refine (nr wc T 1 U [crE] j (some ⟨C.heap.size,0,none⟩) 1 h (by decide)).mono ?_;rintro a wd ⟨rfl,s⟩;have qe:=I.trans (s.mono I.size);clear u j h p K O I s;go_wp2;go_ret;exact ⟨rfl,qe⟩
def sZ (m:av):Bool:=decide (20<m.x.num.length+m.x.den.length+m.y.num.length+m.y.den.length)
def qP (b:aj):Bool:=decide (40<b.pts.length)||b.pts.any sZ
def ol (L:ag):Bool:=decide (40<L.bodies.length)||decide (60<L.joints.length)||decide (40<L.drivers.length)||L.bodies.any qP
theorem qQ {L:ag}(h:ol L=false):lgL L=false:=by
 unfold ol at h;unfold lgL;simp only [Bool.or_eq_false_iff] at h ⊢;refine ⟨h.1,List.any_eq_false.2 fun b hb=>?_⟩;have a:qP b=false:=by simpa using List.any_eq_false.1 h.2 b hb
 unfold qP at a;rw [Bool.or_eq_false_iff] at a
 have f:lgB b=false:=by
  unfold lgB;rw [Bool.or_eq_false_iff];refine ⟨a.1,List.any_eq_false.2 fun m d=>?_⟩;have c:sZ m=false:=by simpa using List.any_eq_false.1 a.2 m d
  unfold sZ at c;simp at c;simp [lgM];omega
 simpa using f
theorem lu (w:World) (A:Option Addr) (n c:Nat) (B:Option Addr) (p d:Nat) (C:Option Addr) (q e:Nat) (L:ag) (h:LkS reachBytes w A n c B p d C q e L) (v:Bool) (hv:ol L=v) :
 Calls Tryz.prog 9 #[.agg #[aa L.name,.slice A n c,.slice B p d,.slice C q e]] w (ax w (.bool v)):=by
 have S:=Qh hv;have G:=Qh (And.intro h.bodies.1 (And.intro h.joints.1 h.drivers.1));have a1:=h.bodies.2.1;have H:=Qh h;clear h hv;go_in;by_cases ha:40<n
 ·have fa:((40:Int)<(n:Int))=True:=eq_true (by omega)
  have a:v=true:=by rw [<- S.out];unfold ol;rw [G.out.1,decide_eq_true ha];rfl
  subst a;go_wp2;go_ret;exact ⟨rfl,(ae w).alloc Qr _⟩
 have fa:((40:Int)<(n:Int))=False:=eq_false (by omega);by_cases hb:60<p
 ·have fb:((60:Int)<(p:Int))=True:=eq_true (by omega)
  have a:v=true:=by rw [<- S.out];unfold ol;rw [G.out.2.1,decide_eq_true hb,Bool.or_true];rfl
  subst a;go_wp2;go_ret;exact ⟨rfl,(ae w).alloc Qr _⟩
 have fb:((60:Int)<(p:Int))=False:=eq_false (by omega);by_cases hc:40<q
 ·have fc:((40:Int)<(q:Int))=True:=eq_true (by omega)
  have a:v=true:=by rw [<- S.out];unfold ol;rw [G.out.2.2,decide_eq_true hc,Bool.or_true];rfl
  subst a;go_wp2;go_ret;exact ⟨rfl,(ae w).alloc Qr _⟩
 have fc:((40:Int)<(q:Int))=False:=eq_false (by omega);have F:Hid (L.bodies.any qP=v):=Qh (by rw [<- S.out];unfold ol;rw [G.out.1,G.out.2.1,G.out.2.2,decide_eq_false ha,decide_eq_false hb,decide_eq_false hc];rfl);clear S;go_wp2_with fail;go_loopw [3] (fun iv wr=>∃ i:Nat,iv=.int .i64 (i:Nat)/\i<=n/\Hid ((L.bodies.take i).any qP=false)/\Blk wr w.heap.size 26 #[aa L.name,.slice A n c,.slice B p d,.slice C q e]/\Below w.heap.size w wr) (fun iv _=>n-(intOf iv).toNat)
 case atStart=>exact ⟨0,rfl,Nat.zero_le _,Qh rfl,ak _ _ _ (by simp),(ae w).alloc Qr _⟩
 case round =>
  obtain ⟨i,rfl,hi,HI,U,r⟩:=hrel;rename World=>wa;have a0:w.heap.size<wa.heap.size:=U.lt;have cL:=U.cell 1;rcases Nat.lt_or_ge i n with ad | ab
  ·have ac:((i:Int)<(n:Int))=True:=by simp;omega
   obtain ⟨g,o,b,O,hg,_,E,hB⟩:=(H.out.bodies.bd r).at_ ad;subst O;obtain ⟨A',y,c',c0,c1,D,a2⟩:=hB;have aT:=D.2.1;have X:=Qh D;have K:=Qh E;by_cases hp4:40<y
   ·have fp:((40:Int)<(y:Int))=True:=eq_true (by omega)
    have a:v=true:=by rw [<- F.out];exact kj K.out (by unfold qP;rw [D.1,decide_eq_true hp4];rfl)
    subst a;clear D E;go_wp2;go_ret;exact ⟨rfl,r⟩
   have fp:((40:Int)<(y:Int))=False:=eq_false (by omega);clear D E;go_wp2_with fail;clear cL c0;go_loopw [4] (fun jv w2=>∃ j:Nat,jv=.int .i64 (j:Nat)/\j<=y/\Hid ((b.pts.take j).any sZ=false)/\Below wa.heap.size wa w2) (fun jv _=>y-(intOf jv).toNat)
   case atStart=>exact ⟨0,rfl,Nat.zero_le _,Qh rfl,ae wa⟩
   case round =>
    obtain ⟨j,rfl,hj,HJ,f⟩:=hrel;rename World=>wb;have I:=U.below f U.lt;have aS:w.heap.size<wb.heap.size:=I.lt;have a5:=I.cell 1;have J:=r.trans (f.mono r.size);have c1:=am c1 f;rcases Nat.lt_or_ge j y with Z | aC
    ·have al:((j:Int)<(y:Int))=True:=by simp;omega
     obtain ⟨T,V,m,O,a3,_,Q,D⟩:=(X.out.mk_ f).at_ Z;subst O;have P:=Qh Q;obtain ⟨d0,⟨b1,A1,t,an,D1,s,O,d1,d2,d3,l⟩,⟨b2,A2,z,c2,D2,M,e2,d4,d5,d6,k⟩,a4⟩:=D;have d2:wb.cell? ⟨T,V+j*7+2,none⟩=some (.slice A1 t an):=d2;have d3:wb.cell? ⟨T,V+j*7+3,none⟩=some (.slice D1 s O):=d3;have d5:wb.cell? ⟨T,V+j*7+5,none⟩=some (.slice A2 z c2):=d5;have d6:wb.cell? ⟨T,V+j*7+6,none⟩=some (.slice D2 M e2):=d6;have x:=Qh (And.intro l.2.1.2.1 (And.intro l.2.2.1.2.1 (And.intro k.2.1.2.1 k.2.2.1.2.1)));have s1:=gR l.2.2.2.1;have s2:=gR l.2.2.2.2;have s3:=gR k.2.2.2.1;have s4:=gR k.2.2.2.2;have a6:g<wb.heap.size:=by have:=f.size;omega
     have u1:IntKind.i64.wrap ((t:Int)+(s:Int))=(t:Int)+(s:Int):=wrap_i64 (by omega) (by omega);have u2:IntKind.i64.wrap ((t:Int)+(s:Int)+(z:Int))=(t:Int)+(s:Int)+(z:Int):=wrap_i64 (by omega) (by omega);have u3:IntKind.i64.wrap ((t:Int)+(s:Int)+(z:Int)+(M:Int))=(t:Int)+(s:Int)+(z:Int)+(M:Int):=wrap_i64 (by omega) (by omega);clear Q l k;by_cases h40:20<t+s+z+M
     ·have f4:((20:Int)<(t:Int)+(s:Int)+(z:Int)+(M:Int))=True:=eq_true (by omega)
      have u:sZ m=true:=by unfold sZ;rw [<- x.out.1,<- x.out.2.1,<- x.out.2.2.1,<- x.out.2.2.2];exact decide_eq_true h40
      have a:v=true:=by rw [<- F.out];exact kj K.out (by unfold qP;rw [kj P.out u,Bool.or_true])
      subst a;clear s1 s2 s3 s4;go_wp2;go_ret;exact ⟨rfl,J.alloc (by have:=J.size;omega) _⟩
     have f4:((20:Int)<(t:Int)+(s:Int)+(z:Int)+(M:Int))=False:=eq_false (by omega);have u:sZ m=false:=by unfold sZ;rw [<- x.out.1,<- x.out.2.1,<- x.out.2.2.1,<- x.out.2.2.2];exact decide_eq_false h40
     have ao:=Qh (ki P.out HJ.out u);clear u s1 s2 s3 s4;go_wp2_with fail;go_roundw
     case rel=>exact ⟨j+1,by go_num,by omega,ao,f.alloc f.size _⟩
     case measure=>simp [intOf];omega
    have al:((j:Int)<(y:Int))=False:=by simp;omega
    have N:b.pts.take j=b.pts:=List.take_of_length_le (by rw [X.out.1];exact aC);rw [N] at HJ;have W:=Qh (ki K.out HI.out (by unfold qP;rw [X.out.1,decide_eq_false hp4,HJ.out];rfl:qP b=false));clear N;go_wp2_with fail;go_roundw
    case rel=>exact ⟨i+1,by go_num,by omega,W,I,J⟩
    case measure=>simp [intOf];omega
  have ac:((i:Int)<(n:Int))=False:=by simp;omega
  have R:L.bodies.take i=L.bodies:=List.take_of_length_le (by rw [G.out.1];exact ab);rw [R] at HI;have Y:v=false:=by rw [<- F.out];exact HI.out
  subst Y;clear R;go_wp2;go_ret;exact ⟨rfl,r⟩
/-! Steps. -/
def kK (w:World) (g o:Nat) (s:bX):Prop:=w.cell? ⟨g,o,none⟩=some (.int .i64 s.what)/\w.cell? ⟨g,o+1,none⟩=some (.int .i64 s.ed.kind)/\w.cell? ⟨g,o+2,none⟩=some (aa s.ed.name)/\w.cell? ⟨g,o+3,none⟩=some (aa s.ed.text)/\s.ed.name.length<=reachBytes/\s.ed.text.length<=reachBytes
theorem kK.belw {w a:World}{g o:Nat}{s:bX}(h:kK w g o s) (hb:Below w.heap.size w a):kK a g o s:=⟨am h.1 hb,am h.2.1 hb,am h.2.2.1 hb,am h.2.2.2.1 hb,h.2.2.2.2⟩
theorem SlS.st {w a:World}{A:Option Addr}{n c:Nat}{l:List bX}(h:SlS kK 4 w A n c l) (hb:Below w.heap.size w a):SlS kK 4 a A n c l:=h.belw (fun _ _ _ h=>h.belw hb) hb
end Go.Proofs.YtndhgcfajlalhaaGreatDoor
namespace Go.Proofs.YtndhgcfajlalhaaGreatDoor
open Go Go.RowKit Bn Go.ChangeShapes Go.WideShapes
attribute [local go_sem ↓] Go.wp_at_zero Go.wp_at_succ

theorem nH {H:Type}{enc:TypeId × Value->H}{W:World}{P:Program}(g:laidOutB P=true) {i:World}(hb:Below W.heap.size W i):∀ {ts:List TypeId}{d:List Value}{f:List (DataW H)}{c:List MemPlace},(ts.all fun t=>P.readableRec t&&decide (t<P.types.size))=true ->
 DataW.TrodAll enc P W 0 (fun _=>true) true ts d f c->DataW.TrodAll enc P i 0 (fun b=>decide (b<W.heap.size)) true ts d f c
 | [],[],[],_,_,h=>h
 | _::_,_::_,_::_,_,hr,h=>by
  have a:=h.lt;obtain ⟨p,q,k,j,e⟩:=h;rw [List.all_cons,Bool.and_eq_true,Bool.and_eq_true,decide_eq_true_eq] at hr;exact ⟨p,q,Below.trod g hr.1.1 hr.1.2 k hb (fun x l=>a x (by rw [e];exact List.mem_append_left _ l)),nH g hb hr.2 j,e⟩
 | [],[],_::_,_,_,h=>h.elim
 | [],_::_,_,_,_,h=>h.elim
 | _::_,[],_,_,_,h=>h.elim
 | _::_,_::_,[],_,_,h=>h.elim
theorem nI {H:Type}{enc:TypeId × Value->H}{W:World}{P:Program}{B:TypeId}{f:Func}{s:ChangeSpec}{l:World}{args:Array Value}{c:List (DataW H)}{before:List MemPlace}(o:laidOutB P=true) (hB:P.underlying B=some .bool)
 (j:DataW.Whole enc P f.params.toList s.vars false W args.toList c [] before) (k:s.vars=[]) (r:f.resultTypes=#[B]) (n:(f.params.toList.all fun t=>P.readableRec t&&decide (t<P.types.size))=true)
 (g:(s.fn H (c++[])).results=[.lit (.bool true)]) (a:(s.fn H (c++[])).args=c) (b:(s.fn H (c++[])).vars=[]) (hb:Below W.heap.size W l) :
 s.post enc P f false true false false W args (.bool true) l:=by
 have i:=j;obtain ⟨p,q,m,u,rfl,_,_⟩:=j;have d:=u;rw [k] at d;obtain ⟨_,rfl⟩:=trodVars_none d;refine ⟨c,[],_,[],p,[],i,?_,?_,?_,hb.frame _,fun h=>by cases h⟩
 ·rw [r,g]
  exact trodAll_mk1 (shut_bool hB _)
 ·rw [a]
  exact nH o hb n m
 rw [k,b];rfl
theorem gK {P:Program}{f:FuncId}{fn:Func}{s:ChangeSpec}{c:OpenClaim}
 (n:(c.wf (OpenSpec.ofChange s)&&laidOutB P&&mapsRowed P&&fn.params.all (P.readableRec ·)&&namedTie P c.named s.vars&&(c.stops==[])&&(P.stops==[])&&(c.knobs==[])&&(P.stopKnobs==[]))=true)
 (q:(c.inPlace==P.inPlace f)=true) (A:(c.unfollowed==P.unfollowed f)=true) (v:(c.recurses==P.recurses f)=true) (F:(c.named==P.varsNamed f)=true)
 (o:((c.maps==(fn.params.toList++s.plain.varTypes P).any (P.mapsRec ·))&&(c.ifaces==(fn.params.toList++s.plain.varTypes P).any (P.ifacesRec ·))&&(c.mapsOut==P.mapsAmong fn.resultTypes.toList) &&
  (c.loops==(fn.params.toList++s.plain.varTypes P).any (P.loopsFrom ·))&&(c.wideKeys==(fn.params.toList++s.plain.varTypes P++fn.resultTypes.toList).any (P.wideKeysFrom ·)) &&
  s.vars.all (P.varReadable ·)&&fn.resultTypes.all (fun t=>P.readableRec t&&decide (t<P.types.size))&&(c.ifacesOut==fn.resultTypes.toList.any (P.ifacesRec ·))&&(c.loopsOut==fn.resultTypes.toList.any (P.loopsFrom ·))&&(c.plainKeys==P.plainKeys)&&c.shortTexts.isNone&&P.stopsHeard&&P.mayEnter&&(c.lifted==P.liftsFinal)&&(P.make==some c.make)&&(c.kinds==(if c.domain.isEmpty then [] else fn.params.toList.map fun t=>match P.underlying t with | some (.int k)=>some k | _=>none))&&(c.pinned==c.pinnedBy) &&
  (c.veiled==(fn.params.toList++s.plain.varTypes P++fn.resultTypes.toList).any (P.veiledRec ·))&&c.veiledFits P fn.params.toList (fn.params.toList++s.plain.varTypes P++fn.resultTypes.toList))=true):joinedFacts P f fn s c=true:=by
 unfold joinedFacts;simp only [Bool.and_eq_true] at n o ⊢;obtain ⟨⟨⟨⟨⟨⟨⟨⟨B,K⟩,C⟩,G⟩,y⟩,w⟩,J⟩,r⟩,p⟩:=n;obtain ⟨⟨⟨⟨⟨⟨⟨⟨⟨⟨⟨⟨⟨⟨⟨⟨⟨⟨b0,D⟩,H⟩,u⟩,I⟩,b5⟩,E⟩,z⟩,L⟩,x⟩,g⟩,i⟩,m⟩,h⟩,b⟩,l⟩,a⟩,j⟩,d⟩:=o;exact ⟨⟨⟨⟨⟨⟨⟨⟨⟨⟨⟨⟨⟨⟨⟨⟨⟨⟨⟨⟨⟨⟨⟨⟨⟨⟨⟨⟨⟨⟨⟨B,K⟩,C⟩,G⟩,y⟩,w⟩,J⟩,r⟩,p⟩,q⟩,A⟩,v⟩,F⟩,b0⟩,D⟩,H⟩,u⟩,I⟩,b5⟩,E⟩,z⟩,L⟩,x⟩,g⟩,i⟩,m⟩,h⟩,b⟩,l⟩,a⟩,j⟩,d⟩
section
variable {H:Type}{enc:TypeId × Value->H}{W:World}{base:Nat}
theorem Bb {t:TypeId}{l:Array Field}{ts:List TypeId}{v:Value}(f:Tryz.prog.underlying t=some (.struct l)) (g:Tryz.prog.cellTypes Tryz.prog.depth t=some ts) (n:Tryz.prog.cellsOf t=ts.length) (h:Value.okWide Tryz.prog W .any base t v) :
 ∃ cs:Array Value,v=.agg cs/\cs.size=ts.length/\∀ (i:Nat) (v:Value) (u:TypeId),cs[i]?=some v->ts[i]?=some u->Cell.okWide Tryz.prog W .any base u v:=by
 unfold Value.okWide at h;rw [f] at h;obtain ⟨cs,rfl,b,m,a,_,o⟩:=h;rw [g] at a;injection a with e;subst e;rw [n] at b;refine ⟨cs,rfl,b,fun i v u j f=>?_⟩;obtain ⟨p,c,k⟩:=o i v j;have d:i<ts.length:=by rw [<- b];exact (Array.getElem?_eq_some_iff.1 j).1
 rw [Nat.mod_eq_of_lt d,f] at c;injection c with c;subst c;exact k
end
theorem gL {W:World}(h:W.ShapedOpen Tryz.prog):∃ m,W.cell? ⟨0,0,none⟩=some (.int .i64 m) :=
 Go.Proofs.cell_of_shapedOpen_int (P:=Tryz.prog) (g:=0) (t:=3) (zero:=#[.int .i64 0]) h (of_decide_eq_true (by kernel_rfl)) (by kernel_rfl) rfl (by kernel_rfl) (by kernel_rfl) Tryz.underlying3
theorem FP : Tryz.prog.globalNamed "internal/strconv.uint64pow10" = some 3 := by kernel_rfl
theorem EG:(Tryz.prog.globals[3]?).map (·.type)=some 242:=by kernel_rfl
theorem xM:Tryz.prog.cellsOf 242=20:=by kernel_rfl
theorem xN:Tryz.prog.cellsOf 179=1:=by kernel_rfl
theorem Bc {H:Type}:(Rows.laid_internal_strconv_uint64pow10:DataW H)=Lib.tabData .u64 Lib.pow10Tab:=by kernel_rfl
theorem iK {rest : List (String × DataW Unit)} {W : World} (h : laidMet Tryz.prog (("math/bits.deBruijn32tab", Rows.laid_math_bits_deBruijn32tab)::("math/bits.deBruijn64tab", Rows.laid_math_bits_deBruijn64tab)::("internal/strconv.uint64pow10", Rows.laid_internal_strconv_uint64pow10)::rest) W) : Tab W := by
 obtain ⟨d,⟨_,_,_,_,_,_,_,_,_,_,⟨_,_,_,_,_,_,_,_,_,_,⟨g,t,cs,f,p,q,b,c,a,hd,_,_⟩,_⟩,_⟩,_,_⟩:=h;obtain rfl:=Option.some.inj (FP.symm.trans b);obtain rfl:=Option.some.inj (EG.symm.trans c);rw [Bc] at hd;unfold Tab Lib.TabIs;rw [a,<- Lib.cells_of_tab Tryz.underlying242 Tryz.underlying179 xN xM hd]
noncomputable def low:Nat:=(World.holding Tryz.prog default ⟨#[],#[],[]⟩).heap.size
noncomputable def cU (os:Os):World :=
  let w0:=World.holding Tryz.prog os ⟨#[.cells #[.string ⟨#[118,97,108,117,101,32,111,117,116,32,111,102,32,114,97,110,103,101]⟩] 254,.cells #[.string ⟨#[105,110,118,97,108,105,100,32,115,121,110,116,97,120]⟩] 254],#[],[]⟩
  { w0 with heap:=(((((((w0.heap.modify 3 fun
      | .cells _ t frozen=>.cells (#[.int .u64 1,.int .u64 10,.int .u64 100,.int .u64 1000,.int .u64 10000,.int .u64 100000,.int .u64 1000000,.int .u64 10000000,.int .u64 100000000,.int .u64 1000000000,.int .u64 10000000000,.int .u64 100000000000,.int .u64 1000000000000,.int .u64 10000000000000,.int .u64 100000000000000,.int .u64 1000000000000000,.int .u64 10000000000000000,.int .u64 100000000000000000,.int .u64 1000000000000000000,.int .u64 10000000000000000000]) t frozen
      | o=>o).modify 6 fun
      | .cells _ t frozen=>.cells (#[.int .u8 0,.int .u8 1,.int .u8 28,.int .u8 2,.int .u8 29,.int .u8 14,.int .u8 24,.int .u8 3,.int .u8 30,.int .u8 22,.int .u8 20,.int .u8 15,.int .u8 25,.int .u8 17,.int .u8 4,.int .u8 8,.int .u8 31,.int .u8 27,.int .u8 13,.int .u8 23,.int .u8 21,.int .u8 19,.int .u8 16,.int .u8 7,.int .u8 26,.int .u8 12,.int .u8 18,.int .u8 6,.int .u8 11,.int .u8 5,.int .u8 10,.int .u8 9]) t frozen
      | o=>o).modify 7 fun
      | .cells _ t frozen=>.cells (#[.int .u8 0,.int .u8 1,.int .u8 56,.int .u8 2,.int .u8 57,.int .u8 49,.int .u8 28,.int .u8 3,.int .u8 61,.int .u8 58,.int .u8 42,.int .u8 50,.int .u8 38,.int .u8 29,.int .u8 17,.int .u8 4,.int .u8 62,.int .u8 47,.int .u8 59,.int .u8 36,.int .u8 45,.int .u8 43,.int .u8 51,.int .u8 22,.int .u8 53,.int .u8 39,.int .u8 33,.int .u8 30,.int .u8 24,.int .u8 18,.int .u8 12,.int .u8 5,.int .u8 63,.int .u8 55,.int .u8 48,.int .u8 27,.int .u8 60,.int .u8 41,.int .u8 37,.int .u8 16,.int .u8 46,.int .u8 35,.int .u8 44,.int .u8 21,.int .u8 52,.int .u8 32,.int .u8 23,.int .u8 11,.int .u8 54,.int .u8 26,.int .u8 40,.int .u8 15,.int .u8 34,.int .u8 20,.int .u8 31,.int .u8 10,.int .u8 25,.int .u8 14,.int .u8 19,.int .u8 9,.int .u8 13,.int .u8 8,.int .u8 7,.int .u8 6]) t frozen
      | o=>o).modify 5 fun
      | .cells _ t frozen=>.cells (#[.int .u8 128,.int .u8 191,.int .u8 160,.int .u8 191,.int .u8 128,.int .u8 159,.int .u8 144,.int .u8 191,.int .u8 128,.int .u8 143,.int .u8 0,.int .u8 0,.int .u8 0,.int .u8 0,.int .u8 0,.int .u8 0,.int .u8 0,.int .u8 0,.int .u8 0,.int .u8 0,.int .u8 0,.int .u8 0,.int .u8 0,.int .u8 0,.int .u8 0,.int .u8 0,.int .u8 0,.int .u8 0,.int .u8 0,.int .u8 0,.int .u8 0,.int .u8 0]) t frozen
      | o=>o).modify 4 fun
      | .cells _ t frozen=>.cells ((Go.Pinned.utf8FirstZ.map fun z:Nat=>Value.int .u8 (z:Int)).toArray) t frozen
      | o=>o).modify 2 fun
      | .cells _ t frozen=>.cells (#[.iface 252 (.pointer (some ⟨low,0,none⟩))]) t frozen
      | o=>o).modify 1 fun
      | .cells _ t frozen=>.cells (#[.iface 252 (.pointer (some ⟨low+1,0,none⟩))]) t frozen
      | o=>o) }
theorem nJ:ownKnob Tryz.prog.godebug=none:=by kernel_rfl
theorem nK:laidOutB Tryz.prog=true:=by kernel_rfl
section
variable {H:Type}{enc:TypeId × Value->H}{W:World}
theorem pw {a:Addr}{v:Value}(h:W.cell? a=some v):∃ g o,a=⟨g,o,none⟩/\g<W.heap.size:=by
 obtain ⟨g,o,s⟩:=a;unfold World.cell? at h;dsimp only at h;split at h
 ·rename_i c _ _ hb
  cases s with
  | none=>exact ⟨g,o,rfl,lt_of_block hb⟩
  | some _=>simp at h
 cases h
def Szd (t:TypeId) (d:DataW H):Prop:=∀ n∈DataW.weights Tryz.prog t d,n<=reachBytes
theorem Szd.field {t:TypeId}{b:Array Field}{a:List (DataW H × List MemPlace)}(k:Tryz.prog.underlying t=some (.struct b)) (h:Szd t (.agg (a.map (·.1)))) {i:Nat}{f:Field}{y:DataW H × List MemPlace}(c:b[i]?=some f) (g:a[i]?=some y):Szd f.type y.1:=by
 intro n l;refine h n ?_;rw [DataW.weights,k];exact DataW.weights_mem_each (j:=i) (t:=f.type) (d:=y.1) (by rw [List.getElem?_map,Array.getElem?_toList,c];rfl) (by rw [List.getElem?_map,g];rfl) n l
theorem gV {P:Program}{e:TypeId}:∀ {a:List (DataW H)}{d:DataW H},d∈a->∀ n∈DataW.weights P e d,n∈DataW.weightsAll P e a
 | x::a,d,hd,n,hn=>by
  rw [DataW.weightsAll,List.mem_append];rcases List.mem_cons.1 hd with rfl | hd
  ·exact .inl hn
  exact .inr (gV hd n hn)
 | [],_,hd,_,_=>by cases hd
theorem Szd.elem {t e:TypeId}{l a:List (DataW H)}(b:Tryz.prog.underlying t=some (.slice e)) (h:Szd t (.slice l a)) {d:DataW H}(hd:d∈l):Szd e d:=by
 intro n c;refine h n ?_;rw [DataW.weights,b];exact List.mem_cons_of_mem _ (List.mem_append_left _ (gV hd n c))
theorem Szd.room {t e:TypeId}{l a:List (DataW H)}(b:Tryz.prog.underlying t=some (.slice e)) (h:Szd t (.slice l a)):(l.length+a.length)*Tryz.prog.bytesOf e<=reachBytes:=by
 refine h _ ?_;rw [DataW.weights,b];exact List.mem_cons_self
theorem Szd.str {t:TypeId}{l:List UInt8}(h:Szd t (.lit (.string l):DataW H)):l.length<=reachBytes:=h _ (by simp [DataW.weights])
theorem lx {ts:List TypeId}{a:List (DataW H)}(h:(DataW.weightsEach Tryz.prog ts a).all (·<=reachBytes)=true) {j:Nat}{t:TypeId}{d:DataW H}(b:ts[j]?=some t) (hd:a[j]?=some d):Szd t d:=fun n c=>by simpa using List.all_eq_true.1 h n (DataW.weights_mem_each b hd n c)
theorem EH {g o i:Nat}:(⟨g,o,none⟩:Addr).add i=⟨g,o+i,none⟩:=add_plain g o i
theorem nL {v:Value}{fuel:Nat}{x:DataW H × List MemPlace}(J:DataW.trod enc Tryz.prog W 0 (fun _=>true) true fuel 52 [v]=some x) (s:Szd 52 x.1) :
 ∃ A n c l,v=.slice A n c/\Wd W A n c l/\n<=reachBytes:=by
 rcases open_ints Tryz.underlying52 Tryz.underlying173 (by kernel_rfl) J with ⟨h,_⟩ | ⟨a,len,cap,zs,h,_,L,I,r,N,E,p⟩
 ·injection h with h _
  exact ⟨none,0,0,[],h,Wd.nil_ W,Nat.zero_le _⟩
 injection h with h _;subst h;rw [N] at s;have w:=s.room Tryz.underlying52;have u:Tryz.prog.bytesOf 173=4:=by kernel_rfl
 rw [u] at w;have s:zs.length=cap:=by simpa using r
 have t:len<=reachBytes:=by
  have:(lits (H:=H) .u32 (zs.take len)).length=len:=by simp [lits];omega
  omega
 have B:∀ i,i<zs.length->0<=zs.getD i 0/\zs.getD i 0<=4294967295:=by
  intro i m;have d:=p (zs.getD i 0) (by rw [List.getD_eq_getElem?_getD,List.getElem?_eq_getElem m];simp);simpa [Lit.wf,IntKind.min,IntKind.max,IntKind.signed,IntKind.bits] using d
 refine ⟨some a,len,cap,(zs.take len).map Int.toNat,rfl,⟨?_,?_,L,fun P=>?_⟩,t⟩
 ·intro y M
  obtain ⟨z,q,rfl⟩:=List.mem_map.1 M;obtain ⟨i,m,D⟩:=List.getElem_of_mem q;have j:i<zs.length:=by rw [List.length_take] at m;omega
  have d:=B i j;rw [List.getD_eq_getElem?_getD,List.getElem?_eq_getElem j] at d;rw [List.getElem_take] at D;simp only [Option.getD_some] at d;rw [D] at d;omega
 ·rw [List.length_map,List.length_take];omega
 have f:=E 0 (by omega);have F:a.add 0=a:=by simp [Addr.add]
 rw [F] at f;obtain ⟨g,o,rfl,_⟩:=pw f;have b:=f;unfold World.cell? at b;dsimp only at b;split at b
 ·rename_i cur K fr hb
  have C:fD W g cur fr:=⟨K,.inr (Dp (i:=o) (k:=.u32) (z:=zs.getD 0 0) (by simpa using b)),hb⟩;refine ⟨g,o,cur,fr,rfl,C,fun i m=>?_⟩;have d:=E i (by omega);have G:=B i (by omega);rw [EH,C.cell] at d;rw [d]
  have O:wd ((zs.take len).map Int.toNat) i=(zs.getD i 0).toNat:=by
   unfold wd;rw [List.getD_eq_getElem?_getD,List.getElem?_map,List.getElem?_take,if_pos m,List.getD_eq_getElem?_getD];rcases zs[i]? with _ | z <;> rfl
  rw [O,Int.toNat_of_nonneg G.1]
 cases b
theorem ul:Tryz.prog.cellsOf 4=1:=by kernel_rfl
theorem ju:Tryz.prog.cellsOf 3=1:=by kernel_rfl
theorem eT:Tryz.prog.cellsOf 9=1:=by kernel_rfl
theorem s9:Tryz.prog.cellsOf 52=1:=by kernel_rfl
theorem xO:Tryz.prog.cellsOf 54=3:=by kernel_rfl
theorem aw {α:Type}{a:List α}{i:Nat}(h:i<a.length):a[i]?=some a[i]:=List.getElem?_eq_getElem h
theorem ta {k d v2:Value}{fuel:Nat}{x:DataW H × List MemPlace}(s:DataW.trod enc Tryz.prog W 0 (fun _=>true) true fuel 54 [k,d,v2]=some x) (f:Szd 54 x.1) :
 ∃ b A n c D m e r,k=.bool b/\d=.slice A n c/\v2=.slice D m e/\QD W b A n c D m e r reachBytes:=by
 obtain ⟨a,n,_,t,_,h,g⟩:=DataW.trod_struct Tryz.underlying54 s;rw [t] at f;have j:DataW.trod enc Tryz.prog W 0 (fun _=>true) true n 4 (List.take (Tryz.prog.cellsOf 4) [k,d,v2])=a[0]?:=g 0 _ rfl;have f1:DataW.trod enc Tryz.prog W 0 (fun _=>true) true n 52 (List.take (Tryz.prog.cellsOf 52) [d,v2])=a[1]?:=g 1 _ rfl;have f2:DataW.trod enc Tryz.prog W 0 (fun _=>true) true n 52 (List.take (Tryz.prog.cellsOf 52) [v2])=a[2]?:=g 2 _ rfl;rw [ul] at j;rw [s9] at f1 f2;have v:a.length=3:=h;rw [aw (show 0<a.length by omega)] at j;have C:=f.field Tryz.underlying54 (i:=0) rfl (aw (show 0<a.length by omega));rw [aw (show 1<a.length by omega)] at f1;have y:=f.field Tryz.underlying54 (i:=1) rfl (aw (show 1<a.length by omega));rw [aw (show 2<a.length by omega)] at f2;have u:=f.field Tryz.underlying54 (i:=2) rfl (aw (show 2<a.length by omega));obtain ⟨b,hb,_⟩:=DataW.trod_bool Tryz.underlying4 j;obtain ⟨A,w,q,l,rfl,B,o⟩:=nL f1 y;obtain ⟨D,m,e,z,rfl,p,k2⟩:=nL f2 u;injection hb with hb _;exact ⟨b,A,w,q,D,m,e,⟨b,l,z⟩,hb,rfl,rfl,rfl,B,p,o,k2⟩
theorem iL {v:Value}{fuel:Nat}{x:DataW H × List MemPlace}(c:DataW.trod enc Tryz.prog W 0 (fun _=>true) true fuel 9 [v]=some x) (b:Szd 9 x.1):∃ t:List UInt8,v=aa t/\NmL t:=by
 obtain ⟨s,a,d,_⟩:=DataW.trod_string Tryz.underlying9 c;injection a with a _;subst a;obtain ⟨t,rfl⟩:∃ t:List UInt8,s=⟨t.toArray⟩:=⟨s.data.toList,by simp⟩;refine ⟨t,rfl,?_⟩;rw [d] at b;have f:t.length<=reachBytes:=b.str;have g:=reachBytes_lt;unfold NmL;omega
theorem fu {α:Type} [Inhabited α] (F:World->Nat->Nat->α->Prop) {t e:TypeId}(s:Nat) (J:Tryz.prog.underlying t=some (.slice e)) (U:Tryz.prog.cellsOf e=s) (z:0<s)
 (one:∀ (fuel:Nat) (cs:List Value) (y:DataW H × List MemPlace) (g o:Nat),cs.length=s->(∀ i,i<s->W.cell? ⟨g,o+i,none⟩=cs[i]?)->DataW.trod enc Tryz.prog W 0 (fun _=>true) true fuel e cs=some y->Szd e y.1->∃ a,F W g o a)
 {v:Value}{fuel:Nat}{x:DataW H × List MemPlace}(h:DataW.trod enc Tryz.prog W 0 (fun _=>true) true fuel t [v]=some x) (K:Szd t x.1):∃ A n c l,v=.slice A n c/\SlS F s W A n c l:=by
 rcases Go.Deep.open_slice J h with ⟨k,_⟩ | ⟨a,len,cap,m,n,D,Y,k,_,S,X,w,r,G⟩
 ·injection k with k _
  exact ⟨none,0,0,[],k,⟨rfl,Qr,fun h=>absurd h (by omega)⟩⟩
 injection k with k _;subst k;rw [r] at K;have E:m=cap:=by simpa using w
 subst E;rw [U] at G;rcases Nat.eq_zero_or_pos len with I | I
 ·subst I
  exact ⟨some a,0,m,[],rfl,⟨rfl,Nat.zero_le _,fun h=>absurd h (by omega)⟩⟩
 obtain ⟨B,u,_⟩:=G 0 (by omega);obtain ⟨_,M,C⟩:=World.cells?_some u;have b:=C 0 z;rw [aw (show 0<B.length by omega)] at b;have L:(a.add (0*s)).add 0=a:=by simp [Addr.add]
 rw [L] at b;obtain ⟨g,o,rfl,O⟩:=pw b
 obtain ⟨f,R⟩:=Go.Deep.choose_lt (n:=len) (p:=fun i a=>F W g (o+i*s) a) (fun i q=>by
  obtain ⟨cs,Q,N⟩:=G i (by omega);obtain ⟨_,T,P⟩:=World.cells?_some Q;refine one n cs _ g (o+i*s) T (fun j V=>?_) N (K.elem J (List.mem_map.2 ⟨i,List.mem_range.2 q,rfl⟩))
  rw [<- P j V,EH,EH])
 refine ⟨_,len,m,(List.range len).map f,rfl,⟨by simp,S,fun _=>⟨g,o,rfl,O,fun i a d=>?_⟩⟩⟩;rw [List.getElem?_map] at d;rcases Nat.lt_or_ge i len with q | q
 ·rw [List.getElem?_range q] at d
  injection d with d;subst d;exact R i q
 rw [List.getElem?_eq_none (by simpa using q)] at d;cases d
instance:Inhabited av:=⟨⟨[],⟨false,[],[]⟩,⟨false,[],[]⟩⟩⟩
instance:Inhabited aj:=⟨⟨[],[]⟩⟩
instance:Inhabited aF:=⟨⟨[],0,0,0,0,0,0⟩⟩
instance:Inhabited aE:=⟨⟨[],0⟩⟩
theorem Be (fuel:Nat) (cs:List Value) (y:DataW H × List MemPlace) (g o:Nat) (I:cs.length=7) (f:∀ i,i<7->W.cell? ⟨g,o+i,none⟩=cs[i]?) (w:DataW.trod enc Tryz.prog W 0 (fun _=>true) true fuel 56 cs=some y) (h:Szd 56 y.1):∃ a,cY reachBytes W g o a:=by
 match cs,I with
 | [v0,v1,v2,v3,v4,v5,v6],_ =>
  obtain ⟨d,n,_,L,_,j,l⟩:=DataW.trod_struct Tryz.underlying56 w;rw [L] at h;have k:DataW.trod enc Tryz.prog W 0 (fun _=>true) true n 9 (List.take (Tryz.prog.cellsOf 9) [v0,v1,v2,v3,v4,v5,v6])=d[0]?:=l 0 _ rfl;have f1:DataW.trod enc Tryz.prog W 0 (fun _=>true) true n 54 (List.take (Tryz.prog.cellsOf 54) [v1,v2,v3,v4,v5,v6])=d[1]?:=l 1 _ rfl;have f2:DataW.trod enc Tryz.prog W 0 (fun _=>true) true n 54 (List.take (Tryz.prog.cellsOf 54) [v4,v5,v6])=d[2]?:=l 2 _ rfl;rw [eT] at k;rw [xO] at f1 f2;have P:d.length=3:=j;rw [aw (show 0<d.length by omega)] at k;have N:=h.field Tryz.underlying56 (i:=0) rfl (aw (show 0<d.length by omega));rw [aw (show 1<d.length by omega)] at f1;have z:=h.field Tryz.underlying56 (i:=1) rfl (aw (show 1<d.length by omega));rw [aw (show 2<d.length by omega)] at f2;have x:=h.field Tryz.underlying56 (i:=2) rfl (aw (show 2<d.length by omega));obtain ⟨nm,rfl,M⟩:=iL k N;obtain ⟨b,A,Q,c,D,m,e,r,rfl,rfl,rfl,C⟩:=ta f1 z;obtain ⟨v,G,p,u,K,O,F,s,rfl,rfl,rfl,t⟩:=ta f2 x;have B:=f 0 (by omega);have q:=f 1 (by omega);have k2:=f 2 (by omega);have k3:=f 3 (by omega);have R:=f 4 (by omega);have E:=f 5 (by omega);have J:=f 6 (by omega);exact ⟨⟨nm,r,s⟩,B,⟨b,A,Q,c,D,m,e,q,k2,k3,C⟩,⟨v,G,p,u,K,O,F,R,E,J,t⟩,M⟩
theorem Bf (fuel:Nat) (cs:List Value) (y:DataW H × List MemPlace) (g o:Nat) (p:cs.length=2) (k:∀ i,i<2->W.cell? ⟨g,o+i,none⟩=cs[i]?) (q:DataW.trod enc Tryz.prog W 0 (fun _=>true) true fuel 51 cs=some y) (h:Szd 51 y.1):∃ a,er reachBytes W g o a:=by
 match cs,p with
 | [v0,v1],_ =>
  obtain ⟨b,n,_,r,_,d,j⟩:=DataW.trod_struct Tryz.underlying51 q;rw [r] at h;have f:DataW.trod enc Tryz.prog W 0 (fun _=>true) true n 9 (List.take (Tryz.prog.cellsOf 9) [v0,v1])=b[0]?:=j 0 _ rfl;have f1:DataW.trod enc Tryz.prog W 0 (fun _=>true) true n 49 (List.take (Tryz.prog.cellsOf 49) [v1])=b[1]?:=j 1 _ rfl;have c1:Tryz.prog.cellsOf 49=1:=by kernel_rfl
  rw [eT] at f;rw [c1] at f1;have u:b.length=2:=d;rw [aw (show 0<b.length by omega)] at f;have t:=h.field Tryz.underlying51 (i:=0) rfl (aw (show 0<b.length by omega));rw [aw (show 1<b.length by omega)] at f1;have w:=h.field Tryz.underlying51 (i:=1) rfl (aw (show 1<b.length by omega));obtain ⟨nm,rfl,s⟩:=iL f t;obtain ⟨A,v,c,l,rfl,z⟩:=fu (cY reachBytes) 7 Tryz.underlying49 (by kernel_rfl) (by decide) Be f1 w;have x:=k 0 (by omega);have m:=k 1 (by omega);exact ⟨⟨nm,l⟩,A,v,c,x,m,z,s⟩
theorem dB {v:Value}{fuel:Nat}{x:DataW H × List MemPlace}(b:DataW.trod enc Tryz.prog W 0 (fun _=>true) true fuel 3 [v]=some x):∃ i:Int,v=.int .i64 i:=by
 obtain ⟨i,a,_⟩:=DataW.trod_int Tryz.underlying3 b;injection a with a _;exact ⟨i,a⟩
theorem xP (fuel:Nat) (cs:List Value) (y:DataW H × List MemPlace) (g o:Nat) (s:cs.length=7) (f:∀ i,i<7->W.cell? ⟨g,o+i,none⟩=cs[i]?) (m:DataW.trod enc Tryz.prog W 0 (fun _=>true) true fuel 81 cs=some y) (c:Szd 81 y.1):∃ a,iu W g o a:=by
 match cs,s with
 | [v0,v1,v2,v3,v4,v5,v6],_ =>
  obtain ⟨b,n,_,x,_,h,d⟩:=DataW.trod_struct Tryz.underlying81 m;rw [x] at c;have j:DataW.trod enc Tryz.prog W 0 (fun _=>true) true n 9 (List.take (Tryz.prog.cellsOf 9) [v0,v1,v2,v3,v4,v5,v6])=b[0]?:=d 0 _ rfl;have f1:DataW.trod enc Tryz.prog W 0 (fun _=>true) true n 3 (List.take (Tryz.prog.cellsOf 3) [v1,v2,v3,v4,v5,v6])=b[1]?:=d 1 _ rfl;have f2:DataW.trod enc Tryz.prog W 0 (fun _=>true) true n 3 (List.take (Tryz.prog.cellsOf 3) [v2,v3,v4,v5,v6])=b[2]?:=d 2 _ rfl;have f3:DataW.trod enc Tryz.prog W 0 (fun _=>true) true n 3 (List.take (Tryz.prog.cellsOf 3) [v3,v4,v5,v6])=b[3]?:=d 3 _ rfl;have f4:DataW.trod enc Tryz.prog W 0 (fun _=>true) true n 3 (List.take (Tryz.prog.cellsOf 3) [v4,v5,v6])=b[4]?:=d 4 _ rfl;have f5:DataW.trod enc Tryz.prog W 0 (fun _=>true) true n 3 (List.take (Tryz.prog.cellsOf 3) [v5,v6])=b[5]?:=d 5 _ rfl;have f6:DataW.trod enc Tryz.prog W 0 (fun _=>true) true n 3 (List.take (Tryz.prog.cellsOf 3) [v6])=b[6]?:=d 6 _ rfl;rw [eT] at j;rw [ju] at f1 f2 f3 f4 f5 f6;have C:b.length=7:=h;rw [aw (show 0<b.length by omega)] at j;have z:=c.field Tryz.underlying81 (i:=0) rfl (aw (show 0<b.length by omega));rw [aw (show 1<b.length by omega)] at f1;have I:=c.field Tryz.underlying81 (i:=1) rfl (aw (show 1<b.length by omega));rw [aw (show 2<b.length by omega)] at f2;have F:=c.field Tryz.underlying81 (i:=2) rfl (aw (show 2<b.length by omega));rw [aw (show 3<b.length by omega)] at f3;have K:=c.field Tryz.underlying81 (i:=3) rfl (aw (show 3<b.length by omega));rw [aw (show 4<b.length by omega)] at f4;have G:=c.field Tryz.underlying81 (i:=4) rfl (aw (show 4<b.length by omega));rw [aw (show 5<b.length by omega)] at f5;have E:=c.field Tryz.underlying81 (i:=5) rfl (aw (show 5<b.length by omega));rw [aw (show 6<b.length by omega)] at f6;have J:=c.field Tryz.underlying81 (i:=6) rfl (aw (show 6<b.length by omega));obtain ⟨nm,rfl,A⟩:=iL j z;obtain ⟨B,rfl⟩:=dB f1;obtain ⟨l,rfl⟩:=dB f2;obtain ⟨t,rfl⟩:=dB f3;obtain ⟨u,rfl⟩:=dB f4;obtain ⟨p,rfl⟩:=dB f5;obtain ⟨w,rfl⟩:=dB f6;have q:=f 0 (by omega);have k:=f 1 (by omega);have k2:=f 2 (by omega);have k3:=f 3 (by omega);have D:=f 4 (by omega);have r:=f 5 (by omega);have v:=f 6 (by omega);exact ⟨⟨nm,B,l,t,u,p,w⟩,q,k,k2,k3,D,r,v,A⟩
theorem uo (fuel:Nat) (cs:List Value) (y:DataW H × List MemPlace) (g o:Nat) (p:cs.length=2) (j:∀ i,i<2->W.cell? ⟨g,o+i,none⟩=cs[i]?) (l:DataW.trod enc Tryz.prog W 0 (fun _=>true) true fuel 86 cs=some y) (f:Szd 86 y.1):∃ a,iw W g o a:=by
 match cs,p with
 | [v0,v1],_ =>
  obtain ⟨b,n,_,q,_,c,h⟩:=DataW.trod_struct Tryz.underlying86 l;rw [q] at f;have d:DataW.trod enc Tryz.prog W 0 (fun _=>true) true n 9 (List.take (Tryz.prog.cellsOf 9) [v0,v1])=b[0]?:=h 0 _ rfl;have f1:DataW.trod enc Tryz.prog W 0 (fun _=>true) true n 3 (List.take (Tryz.prog.cellsOf 3) [v1])=b[1]?:=h 1 _ rfl;rw [eT] at d;rw [ju] at f1;have u:b.length=2:=c;rw [aw (show 0<b.length by omega)] at d;have s:=f.field Tryz.underlying86 (i:=0) rfl (aw (show 0<b.length by omega));rw [aw (show 1<b.length by omega)] at f1;have v:=f.field Tryz.underlying86 (i:=1) rfl (aw (show 1<b.length by omega));obtain ⟨nm,rfl,r⟩:=iL d s;obtain ⟨t,rfl⟩:=dB f1;have m:=j 0 (by omega);have k:=j 1 (by omega);exact ⟨⟨nm,t⟩,m,k,r⟩
theorem xQ {k f v2 v3:Value}{fuel:Nat}{x:DataW H × List MemPlace}(m:DataW.trod enc Tryz.prog W 0 (fun _=>true) true fuel 26 [k,f,v2,v3]=some x) (b:Szd 26 x.1) :
 ∃ A n c B p d C q e L,k=aa L.name/\f=.slice A n c/\v2=.slice B p d/\v3=.slice C q e/\LkS reachBytes W A n c B p d C q e L:=by
 obtain ⟨a,n,_,v,_,h,g⟩:=DataW.trod_struct Tryz.underlying26 m;rw [v] at b;have j:DataW.trod enc Tryz.prog W 0 (fun _=>true) true n 9 (List.take (Tryz.prog.cellsOf 9) [k,f,v2,v3])=a[0]?:=g 0 _ rfl;have f1:DataW.trod enc Tryz.prog W 0 (fun _=>true) true n 22 (List.take (Tryz.prog.cellsOf 22) [f,v2,v3])=a[1]?:=g 1 _ rfl;have f2:DataW.trod enc Tryz.prog W 0 (fun _=>true) true n 23 (List.take (Tryz.prog.cellsOf 23) [v2,v3])=a[2]?:=g 2 _ rfl;have f3:DataW.trod enc Tryz.prog W 0 (fun _=>true) true n 24 (List.take (Tryz.prog.cellsOf 24) [v3])=a[3]?:=g 3 _ rfl;have c1:Tryz.prog.cellsOf 22=1:=by kernel_rfl
 have c2:Tryz.prog.cellsOf 23=1:=by kernel_rfl
 have c3:Tryz.prog.cellsOf 24=1:=by kernel_rfl
 rw [eT] at j;rw [c1] at f1;rw [c2] at f2;rw [c3] at f3;have z:a.length=4:=h;rw [aw (show 0<a.length by omega)] at j;have y:=b.field Tryz.underlying26 (i:=0) rfl (aw (show 0<a.length by omega));rw [aw (show 1<a.length by omega)] at f1;have r:=b.field Tryz.underlying26 (i:=1) rfl (aw (show 1<a.length by omega));rw [aw (show 2<a.length by omega)] at f2;have o:=b.field Tryz.underlying26 (i:=2) rfl (aw (show 2<a.length by omega));rw [aw (show 3<a.length by omega)] at f3;have u:=b.field Tryz.underlying26 (i:=3) rfl (aw (show 3<a.length by omega));obtain ⟨nm,rfl,w⟩:=iL j y;obtain ⟨A,D,c,l1,rfl,s⟩:=fu (er reachBytes) 2 Tryz.underlying22 (by kernel_rfl) (by decide) Bf f1 r;obtain ⟨B,p,d,l2,rfl,l⟩:=fu iu 7 Tryz.underlying23 (by kernel_rfl) (by decide) xP f2 o;obtain ⟨C,q,e,l3,rfl,t⟩:=fu iw 2 Tryz.underlying24 (by kernel_rfl) (by decide) uo f3 u;exact ⟨A,D,c,B,p,d,C,q,e,⟨nm,l1,l2,l3⟩,rfl,rfl,rfl,rfl,w,s,l,t⟩
variable {base:Nat}
theorem ly {v:Value}{d:DataW H}{p:List MemPlace}(a:Value.okWide Tryz.prog W .any base 26 v) (h:DataW.Trod enc Tryz.prog W 0 (fun _=>true) true 26 v d p) (g:Szd 26 d) :
 ∃ A n c B p d C q e L,v=.agg #[aa L.name,.slice A n c,.slice B p d,.slice C q e]/\LkS reachBytes W A n c B p d C q e L:=by
 obtain ⟨cs,rfl,b,_⟩:=Bb (ts:=[9,22,23,24]) Tryz.underlying26 (by kernel_rfl) (by kernel_rfl) a;obtain ⟨fuel,h⟩:=h;obtain ⟨l⟩:=cs
 match l,b with
 | [v0,v1,v2,v3],_ =>
  obtain ⟨A,n,c,B,p,d,C,q,e,L,rfl,rfl,rfl,rfl,f⟩:=xQ h g;exact ⟨A,n,c,B,p,d,C,q,e,L,rfl,f⟩
end
end Go.Proofs.YtndhgcfajlalhaaGreatDoor
namespace Go.Proofs.YtndhgcfajlalhaaGreatDoor
open Go Go.RowKit Bn Go.ChangeShapes Go.WideShapes Go.ChangeAt
attribute [local go_sem ↓] Go.wp_at_zero Go.wp_at_succ
variable {H:Type}{enc:TypeId × Value->H}{W:World}
theorem px {v:Value}{fuel:Nat}{x:DataW H × List MemPlace}(c:DataW.trod enc Tryz.prog W 0 (fun _=>true) true fuel 9 [v]=some x) (b:Szd 9 x.1):∃ t:List UInt8,v=aa t/\t.length<=reachBytes:=by
 obtain ⟨s,a,d,_⟩:=DataW.trod_string Tryz.underlying9 c;injection a with a _;subst a;obtain ⟨t,rfl⟩:∃ t:List UInt8,s=⟨t.toArray⟩:=⟨s.data.toList,by simp⟩;rw [d] at b;exact ⟨t,rfl,b.str⟩
theorem nM {j b v2:Value}{fuel:Nat}{x:DataW H × List MemPlace}(m:DataW.trod enc Tryz.prog W 0 (fun _=>true) true fuel 39 [j,b,v2]=some x) (l:Szd 39 x.1):∃ k nm c,j=.int .i64 k/\b=aa nm/\v2=aa c/\nm.length<=reachBytes/\c.length<=reachBytes:=by
 obtain ⟨a,n,_,o,_,f,d⟩:=DataW.trod_struct Tryz.underlying39 m;rw [o] at l;have g:DataW.trod enc Tryz.prog W 0 (fun _=>true) true n 3 (List.take (Tryz.prog.cellsOf 3) [j,b,v2])=a[0]?:=d 0 _ rfl;have f1:DataW.trod enc Tryz.prog W 0 (fun _=>true) true n 9 (List.take (Tryz.prog.cellsOf 9) [b,v2])=a[1]?:=d 1 _ rfl;have f2:DataW.trod enc Tryz.prog W 0 (fun _=>true) true n 9 (List.take (Tryz.prog.cellsOf 9) [v2])=a[2]?:=d 2 _ rfl;rw [ju] at g;rw [eT] at f1 f2;have r:a.length=3:=f;rw [aw (show 0<a.length by omega)] at g;rw [aw (show 1<a.length by omega)] at f1;rw [aw (show 2<a.length by omega)] at f2;have s:=l.field Tryz.underlying39 (i:=1) rfl (aw (show 1<a.length by omega));have q:=l.field Tryz.underlying39 (i:=2) rfl (aw (show 2<a.length by omega));obtain ⟨k,rfl⟩:=dB g;obtain ⟨nm,rfl,p⟩:=px f1 s;obtain ⟨c,rfl,h⟩:=px f2 q;exact ⟨k,nm,c,rfl,rfl,rfl,p,h⟩
theorem qR {t e:TypeId}(g:Tryz.prog.underlying t=some (.slice e)) (hb:0<Tryz.prog.bytesOf e) {fuel:Nat}{x:DataW H × List MemPlace}{A:Option Addr}{n c:Nat}(h:DataW.trod enc Tryz.prog W 0 (fun _=>true) true fuel t [.slice A n c]=some x) (i:Szd t x.1):n<=reachBytes:=by
 rcases Go.Deep.open_slice g h with ⟨b,_⟩ | ⟨a,len,cap,m,k,D,q,b,_,l,p,j,d,o⟩
 ·injection b with b _
  injection b with _ b _;rw [b];exact Nat.zero_le _
 injection b with b _;injection b with _ b _;subst b;rw [d] at i;have f:=i.room g;simp only [List.length_map,List.length_range] at f;exact Nat.le_trans (Nat.le_trans (Nat.le_add_right _ _) (Nat.le_mul_of_pos_right _ hb)) f
instance:Inhabited bo:=⟨⟨0,[],[]⟩⟩
instance:Inhabited bX:=⟨⟨0,default⟩⟩
theorem step_one (fuel:Nat) (cs:List Value) (y:DataW H × List MemPlace) (g o:Nat) (m:cs.length=4) (c:∀ i,i<4->W.cell? ⟨g,o+i,none⟩=cs[i]?) (p:DataW.trod enc Tryz.prog W 0 (fun _=>true) true fuel 41 cs=some y) (l:Szd 41 y.1):∃ a,kK W g o a:=by
 match cs,m with
 | [v0,v1,v2,v3],_ =>
  obtain ⟨b,n,_,r,_,d,j⟩:=DataW.trod_struct Tryz.underlying41 p;rw [r] at l;have f:DataW.trod enc Tryz.prog W 0 (fun _=>true) true n 3 (List.take (Tryz.prog.cellsOf 3) [v0,v1,v2,v3])=b[0]?:=j 0 _ rfl;have f1:DataW.trod enc Tryz.prog W 0 (fun _=>true) true n 39 (List.take (Tryz.prog.cellsOf 39) [v1,v2,v3])=b[1]?:=j 1 _ rfl;have c1:Tryz.prog.cellsOf 39=3:=by kernel_rfl
  rw [ju] at f;rw [c1] at f1;have t:b.length=2:=d;rw [aw (show 0<b.length by omega)] at f;rw [aw (show 1<b.length by omega)] at f1;have u:=l.field Tryz.underlying41 (i:=1) rfl (aw (show 1<b.length by omega));obtain ⟨k,rfl⟩:=dB f;obtain ⟨q,nm,v,rfl,rfl,rfl,s,h⟩:=nM f1 u;exact ⟨⟨k,⟨q,nm,v⟩⟩,c 0 (by omega),c 1 (by omega),c 2 (by omega),c 3 (by omega),s,h⟩
variable {base:Nat}
end Go.Proofs.YtndhgcfajlalhaaGreatDoor
