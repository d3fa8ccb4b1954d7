/- Part CQ7: lemmas and walks that the claim rests on. No claim is made here. -/
import Derived.Deep.RegionHeld3
import Derived.Deep.DrawnRows
import Derived.Laws.StructEq
import Derived.BigQuiet
import Derived.Deep.RegionLaw
import Derived.Deep.DeepCutAuto
import Derived.Test.YtndhgcfajlalhaaGreatDoorCQ6
set_option linter.unusedVariables false
set_option maxHeartbeats 8000000
set_option maxRecDepth 100000
/- Walks: fields that differ. -/
namespace Go.Proofs.YtndhgcfajlalhaaGreatDoor
open Go Go.RowKit Bn
attribute [local go_sem ↓] Go.wp_at_zero Go.wp_at_succ
theorem nt (w:World) (A n c l) (p:Wd w A n c l) (A' a c' l') (s:Wd w A' a c' l') (f:l≠l') (N:n<=1000000000) (G:a<=1000000000) :
 Calls Tryz.prog 117 #[.slice A n c,.slice A' a c'] w (ax w (.bool false)):=by
 by_cases hnn:a=n
 ·subst hnn
  obtain ⟨j,H,k⟩:=Fj (by rw [<- p.2.1,<- s.2.1]) f;rw [<- p.2.1] at H;have F:=Qh p;have D:=Qh s;have z:=Qh k;clear p s f k;go_in;go_wp2_with fail;go_loopw [5] (fun t wr=>∃ (i q:Nat),i<=j/\t=.int .i64 (i:Nat)/\wr=w.drewN q) (fun t _=>a-(intOf t).toNat)
  case atStart=>exact ⟨0,0,Nat.zero_le _,rfl,rfl⟩
  case round =>
   obtain ⟨i,q,M,rfl,rfl⟩:=hrel;have d:i<a:=by omega
   obtain ⟨g,o,rfl,r⟩:=F.out.at_ (by omega);obtain ⟨J,L,rfl,m⟩:=D.out.at_ (by omega);have E:=r i d;have B:=m i d;have I:(0:Int)<=(i:Int):=by omega
   have v:(i:Int)<(a:Int):=by omega
   have b:=Qh (show i=j->wd l i≠wd l' i by rintro rfl;exact z.out);generalize wd l i=x at E b;generalize wd l' i=y at B b;clear r m;by_cases hxy:x=y
   ·subst hxy
    have C:i<j:=by
     rcases Nat.lt_or_ge i j with h | h
     ·exact h
     exact absurd rfl (b.out (by omega))
    go_wp2_with fail;go_quiet (fail);go_wp2;go_roundw
    case rel=>exact ⟨i+1,_,by omega,by go_num,rfl⟩
    case measure=>simp [intOf];omega
   have u:¬ (x:Int)=(y:Int):=by omega
   go_wp2_with fail;go_quiet (fail);go_wp2;go_ret;exact bW rfl (by repeat (first | exact Below.refl _ _ | refine af ?_ _))
 have O:((n:Int)==(a:Int))=false:=by simp;omega
 have K:¬ (n:Int)=(a:Int):=by omega
 clear p s;go_in;go_wp2;go_ret;exact bW rfl (ae w)
theorem wS (w:World) (b:Bool) (A:Option Addr) (n c:Nat) (D:Option Addr) (m e:Nat) (r:RD) (k:Nat) (h:QD w b A n c D m e r k) (d:Bool) (s:Option Addr) (j o:Nat) (t:Option Addr) (u p:Nat) (y:RD) (q:Nat) (C:QD w d s j o t u p y q) (a:b≠d) (H:k<=1000000) (B:q<=1000000) :
 Calls Tryz.prog 81 #[.agg #[.bool b,.slice A n c,.slice D m e],.agg #[.bool d,.slice s j o,.slice t u p]] w (ax w (.bool false)):=by
 obtain ⟨F,G,hd,z,x⟩:=h;obtain ⟨i,g,f,l,v⟩:=C;have I:(b==d)=false:=by simpa using a
 have E:¬ b=d:=a;clear G hd g f F i;go_in;go_wp2;go_ret;exact bW rfl (((ae w).alloc Qr _).alloc (by simp) _)
theorem wT (w:World) (b:Bool) (A:Option Addr) (n c:Nat) (D:Option Addr) (m e:Nat) (r:RD) (k:Nat) (h:QD w b A n c D m e r k) (t:Bool) (o:Option Addr) (i j:Nat) (p:Option Addr) (q l:Nat) (s:RD) (z:Nat) (J:QD w t o i j p q l s z) (u:b=t) (d:r.num≠s.num) (N:k<=1000000) (I:z<=1000000) :
 Calls Tryz.prog 81 #[.agg #[.bool b,.slice A n c,.slice D m e],.agg #[.bool t,.slice o i j,.slice p q l]] w (ax w (.bool false)):=by
 obtain ⟨L,C,hd,G,F⟩:=h;obtain ⟨v,g,f,x,B⟩:=J;subst u;have P:(b==b)=true:=by simp
 have y:=Qh (And.intro C g);have O:=Qh (And.intro hd f);have K:=Qh d;clear C g hd f d L v;go_in;go_wp2_with fail;refine (nt _ A n c r.num ?_ o i j s.num ?_ ?_ ?_ ?_).mono ?_;(exact y.out.1.keep (((Kp.refl _).alloc _).alloc _));(exact y.out.2.keep (((Kp.refl _).alloc _).alloc _));(exact K.out);(omega);(omega);rintro e a ⟨rfl,hb⟩;have q1:Below w.heap.size w a:=(((Below.refl _ _).alloc Qr _).alloc (by simp) _).trans (hb.mono (by simp <;> omega));have x0:Blk a w.heap.size 54 #[.bool b,.slice A n c,.slice D m e]:=((ak w _ _ rfl).alloc _).below hb (by simp <;> omega);have M:Blk a (w.heap.size+1) 54 #[.bool b,.slice o i j,.slice p q l]:=(ak _ _ _ (by simp)).below hb (by simp);have H:a.cell? ⟨w.heap.size,2,none⟩=some (.slice D m e):=x0.cell 2;have E:a.cell? ⟨w.heap.size+1,2,none⟩=some (.slice p q l):=M.cell 2;clear hb;go_wp2;go_ret;exact ⟨rfl,q1⟩
theorem wU (w:World) (b:Bool) (A:Option Addr) (n c:Nat) (D:Option Addr) (m e:Nat) (r:RD) (k:Nat) (h:QD w b A n c D m e r k) (t:Bool) (s:Option Addr) (o q:Nat) (i:Option Addr) (j g:Nat) (p:RD) (C:Nat) (M:QD w t s o q i j g p C) (u:b=t) (x:r.num=p.num) (f:r.den≠p.den) (Q:k<=1000000) (L:C<=1000000) :
 Calls Tryz.prog 81 #[.agg #[.bool b,.slice A n c,.slice D m e],.agg #[.bool t,.slice s o q,.slice i j g]] w (ax w (.bool false)):=by
 obtain ⟨O,G,hd,J,I⟩:=h;obtain ⟨y,a,l,z,F⟩:=M;rw [<- x] at a;subst u;have R:(b==b)=true:=by simp
 have B:=Qh (And.intro G a);have E:=Qh (And.intro hd l);have N:=Qh f;clear G a hd l f O y;go_in;go_wp2_with fail;refine (pA _ A n c r.num ?_ s o q ?_ ?_).mono ?_;(exact B.out.1.keep (((Kp.refl _).alloc _).alloc _));(exact B.out.2.keep (((Kp.refl _).alloc _).alloc _));(omega);rintro e d ⟨rfl,hb⟩;have q1:Below w.heap.size w d:=(((Below.refl _ _).alloc Qr _).alloc (by simp) _).trans (hb.mono (by simp <;> omega));have x0:Blk d w.heap.size 54 #[.bool b,.slice A n c,.slice D m e]:=((ak w _ _ rfl).alloc _).below hb (by simp <;> omega);have P:Blk d (w.heap.size+1) 54 #[.bool b,.slice s o q,.slice i j g]:=(ak _ _ _ (by simp)).below hb (by simp);have K:d.cell? ⟨w.heap.size,2,none⟩=some (.slice D m e):=x0.cell 2;have H:d.cell? ⟨w.heap.size+1,2,none⟩=some (.slice i j g):=P.cell 2;clear hb;go_wp2_with fail;refine (nt _ D m e r.den ?_ i j g p.den ?_ ?_ ?_ ?_).mono ?_;(exact E.out.1.belw q1);(exact E.out.2.belw q1);(exact N.out);(omega);(omega);rintro e S ⟨rfl,v⟩;go_wp2;go_ret;exact ⟨rfl,q1.trans (v.mono q1.size)⟩
theorem Af (w:World) (b:Bool) (A:Option Addr) (n c:Nat) (D:Option Addr) (m e:Nat) (t:Bool) (p:Option Addr) (l o:Nat) (f:Option Addr) (g d:Nat) (r:RD) (k F:Nat) (h:QD w b A n c D m e r k) (E:QD w t p l o f g d r F) (I:k<=1000000) :
 Calls Tryz.prog 81 #[.agg #[.bool b,.slice A n c,.slice D m e],.agg #[.bool t,.slice p l o,.slice f g d]] w (ax w (.bool true)):=by
 obtain ⟨G,x,hd,B,z⟩:=h;obtain ⟨s,j,i,_,_⟩:=E;subst G s;have J:(r.neg==r.neg)=true:=by simp
 have u:=Qh (And.intro x j);have v:=Qh (And.intro hd i);clear x j hd i;go_in;go_wp2_with fail;refine (pA _ A n c r.num ?_ p l o ?_ ?_).mono ?_;(exact u.out.1.keep (((Kp.refl _).alloc _).alloc _));(exact u.out.2.keep (((Kp.refl _).alloc _).alloc _));(omega);rintro e a ⟨rfl,hb⟩;have q1:Below w.heap.size w a:=(((Below.refl _ _).alloc Qr _).alloc (by simp) _).trans (hb.mono (by simp <;> omega));have x0:Blk a w.heap.size 54 #[.bool r.neg,.slice A n c,.slice D m e]:=((ak w _ _ rfl).alloc _).below hb (by simp <;> omega);have H:Blk a (w.heap.size+1) 54 #[.bool r.neg,.slice p l o,.slice f g d]:=(ak _ _ _ (by simp)).below hb (by simp);have C:a.cell? ⟨w.heap.size,2,none⟩=some (.slice D m e):=x0.cell 2;have y:a.cell? ⟨w.heap.size+1,2,none⟩=some (.slice f g d):=H.cell 2;clear hb;go_wp2_with fail;refine (pA _ D m e r.den ?_ f g d ?_ ?_).mono ?_;(exact v.out.1.belw q1);(exact v.out.2.belw q1);(omega);rintro e K ⟨rfl,q⟩;go_wp2;go_ret;exact ⟨rfl,q1.trans (q.mono q1.size)⟩
theorem uU (w:World) (b:Bool) (A:Option Addr) (n c:Nat) (D:Option Addr) (m e:Nat) (d:Bool) (o:Option Addr) (g i:Nat) (p:Option Addr) (q j:Nat) (r a:RD) (k l:Nat) (h:QD w b A n c D m e r k) (s:QD w d o g i p q j a l) (t:k<=1000000) (f:l<=1000000) (v:Bool) (y:v=true ↔ r=a) :
 Calls Tryz.prog 81 #[.agg #[.bool b,.slice A n c,.slice D m e],.agg #[.bool d,.slice o g i,.slice p q j]] w (ax w (.bool v)):=by
 by_cases e1:r=a
 ·subst e1
  rw [y.2 rfl];exact Af w b A n c D m e d o g i p q j r k l h s t
 have u:v=false:=by cases v;rfl;exact absurd (y.1 rfl) e1
 subst u;by_cases eb:b=d
 ·by_cases en:r.num=a.num
  ·refine wU w b A n c D m e r k h d o g i p q j a l s eb en (fun ed=>e1 ?_) t f
   have x:r.neg=a.neg:=by rw [h.1,s.1,eb]
   obtain ⟨F,G,C⟩:=r;obtain ⟨z,E,B⟩:=a;simp only at x en ed;rw [x,en,ed]
  exact wT w b A n c D m e r k h d o g i p q j a l s eb en t f
 exact wS w b A n c D m e r k h d o g i p q j a l s eb t f
def Ag (w:World) (g o:Nat) (s:Value) (b1:Bool) (A1:Option Addr) (n1 c1:Nat) (D1:Option Addr) (m1 e1:Nat) (b2:Bool) (A2:Option Addr) (n2 c2:Nat) (D2:Option Addr) (m2 e2:Nat):Prop :=
  w.cell? ⟨g,o,none⟩=some s/\w.cell? ⟨g,o+1,none⟩=some (.bool b1)/\w.cell? ⟨g,o+2,none⟩=some (.slice A1 n1 c1)/\w.cell? ⟨g,o+3,none⟩=some (.slice D1 m1 e1)/\w.cell? ⟨g,o+4,none⟩=some (.bool b2)/\w.cell? ⟨g,o+5,none⟩=some (.slice A2 n2 c2)/\w.cell? ⟨g,o+6,none⟩=some (.slice D2 m2 e2)
section
variable {w w':World}{g o:Nat}{s:Value}{b1 b2:Bool}{A1 D1 A2 D2:Option Addr}{n1 c1 m1 e1 n2 c2 m2 e2:Nat}
theorem Ah (h:w.cell? ⟨g,o,none⟩=some s) (d:w.cell? ⟨g,o+1,none⟩=some (.bool b1)) (b:w.cell? ⟨g,o+1+1,none⟩=some (.slice A1 n1 c1)) (i:w.cell? ⟨g,o+1+2,none⟩=some (.slice D1 m1 e1)) (c:w.cell? ⟨g,o+4,none⟩=some (.bool b2)) (f:w.cell? ⟨g,o+4+1,none⟩=some (.slice A2 n2 c2)) (a:w.cell? ⟨g,o+4+2,none⟩=some (.slice D2 m2 e2)):Ag w g o s b1 A1 n1 c1 D1 m1 e1 b2 A2 n2 c2 D2 m2 e2:=⟨h,d,b,i,c,f,a⟩
theorem lB (h:Ag w g o s b1 A1 n1 c1 D1 m1 e1 b2 A2 n2 c2 D2 m2 e2) (hb:Below w.heap.size w w') :
 w'.cell? ⟨g,o,none⟩=some s/\w'.cell? ⟨g,o+1,none⟩=some (.bool b1)/\w'.cell? ⟨g,o+2,none⟩=some (.slice A1 n1 c1)/\w'.cell? ⟨g,o+3,none⟩=some (.slice D1 m1 e1)/\w'.cell? ⟨g,o+4,none⟩=some (.bool b2)/\w'.cell? ⟨g,o+5,none⟩=some (.slice A2 n2 c2)/\w'.cell? ⟨g,o+6,none⟩=some (.slice D2 m2 e2) :=
 ⟨ai h.1 hb,ai h.2.1 hb,ai h.2.2.1 hb,ai h.2.2.2.1 hb,ai h.2.2.2.2.1 hb,ai h.2.2.2.2.2.1 hb,ai h.2.2.2.2.2.2 hb⟩
end
theorem qn (p:Prop):∃ v:Bool,v=true ↔ p:=by
 by_cases h:p
 ·exact ⟨true,by simp [h]⟩
 exact ⟨false,by simp [h]⟩
theorem Fk:Tryz.prog.eqGuardType Tryz.prog.depth 81=false:=by kernel_rfl
theorem Fl:Tryz.prog.stoodInHeld 81=false:=by kernel_rfl
theorem Fm:Tryz.prog.eqGuardType Tryz.prog.depth 86=false:=by kernel_rfl
theorem Fn:Tryz.prog.stoodInHeld 86=false:=by kernel_rfl
theorem je {α:Type}{l m:List α}{i:Nat}{a:α}(h:l.take i=m.take i) (c:l[i]?=some a) (b:m[i]?=some a):l.take (i+1)=m.take (i+1):=by rw [List.take_add_one,List.take_add_one,h,c,b]
theorem Ai (w:World) (A:Option Addr) (n c:Nat) (a:BodyL) (h:SlS (cT 1000000) 7 w A n c a.pts) (A':Option Addr) (n' M:Nat) (b:BodyL) (h':SlS (cT 1000000) 7 w A' n' M b.pts) (hn:n<=1000) (v:Bool) (hv:v=true ↔ a=b) :
 Calls Tryz.prog 45 #[.agg #[aa a.name,.slice A n c],.agg #[aa b.name,.slice A' n' M]] w (ax w (.bool v)):=by
 have H:=Qh (And.intro h h');have HV:=Qh hv;clear h h' hv;by_cases en:a.name=b.name
 ·by_cases el:n=n'
  ·subst el
   have hs:(a.name==b.name)=true:=beq_iff_eq.2 en;have HN:=Qh en;have d9:=H.out.1.2.1;have ds:=H.out.2.2.1;have c5:=Qh H.out.1.1;have b8:=Qh H.out.2.1;clear en;go_in;go_wp2_with fail;go_loopw [5] (fun iv wr=>∃ i:Nat,iv=.int .i64 (i:Nat)/\i<=n/\Hid (a.pts.take i=b.pts.take i)/\Blk wr w.heap.size 51 #[aa a.name,.slice A n c]/\Blk wr (w.heap.size+1) 51 #[aa b.name,.slice A' n M]/\Below w.heap.size w wr) (fun iv _=>n-(intOf iv).toNat)
   case atStart=>exact ⟨0,rfl,Nat.zero_le _,Qh rfl,(ak w _ _ rfl).alloc _,ak _ _ _ (by simp),((ae w).alloc Qr _).alloc (by simp) _⟩
   case round =>
    obtain ⟨i,rfl,hi,HI,xa,xb,L⟩:=hrel;rename World=>wa;have ea:w.heap.size<wa.heap.size:=xa.lt;have ec:w.heap.size+1<wa.heap.size:=xb.lt;rcases Nat.lt_or_ge i n with a7 | bv
    ·have b9:((i:Int)<(n:Int))=True:=by simp;omega
     obtain ⟨g,o,x,r,hg,_,bf,hX⟩:=H.out.1.at_ a7;subst r;obtain ⟨F,E,y,r,eb,_,a3,hY⟩:=H.out.2.at_ a7;subst r;have a6:=xa.cell 1;obtain ⟨d0,⟨Q,U,Z,c1,Y,m1,r,d1,d2,d3,bw⟩,⟨S,A2,n2,c2,D2,m2,t,d4,d5,d6,a4⟩,_⟩:=hX;obtain ⟨f0,⟨T,W,n3,c3,D3,m3,O,f1,f2,f3,br⟩,⟨b4,A4,n4,c4,V,X,e4,f4,f5,f6,bx⟩,_⟩:=hY;have dq:=Qh (Ah d0 d1 d2 d3 d4 d5 d6);have c9:=Qh (Ah f0 f1 f2 f3 f4 f5 f6);have HQ:=Qh (And.intro bw (And.intro a4 (And.intro br bx)));have s:=Qh (And.intro bf a3);clear d0 d1 d2 d3 d4 d5 d6 f0 f1 f2 f3 f4 f5 f6 bw a4 br bx bf a3;go_wp2_with fail;clear a6;have dv:((i:Int)<(n:Int)):=by omega
     refine nX (B:=w.heap.size) (fr:=fun j=>⟨List.toArray (.agg #[aa a.name,.slice (some ⟨g,o,none⟩) n c] :: .agg #[aa b.name,.slice (some ⟨F,E,none⟩) n M] :: .pointer (some ⟨w.heap.size,0,none⟩) :: .pointer (some ⟨w.heap.size+1,0,none⟩)::u4 :: .int .i64 (i:Nat)::j 10::j 11 :: .pointer (some ⟨w.heap.size,0,none⟩)::aa a.name :: .pointer (some ⟨w.heap.size+1,0,none⟩)::aa b.name :: .bool false :: .bool false :: .pointer (some ⟨w.heap.size,1,none⟩) :: .slice (some ⟨g,o,none⟩) n c :: .int .i64 (n:Nat) :: .pointer (some ⟨w.heap.size+1,1,none⟩) :: .slice (some ⟨F,E,none⟩) n M :: .int .i64 (n:Nat) :: .bool false :: .bool false :: .int .i64 (i:Nat) :: .pointer (some ⟨w.heap.size,1,none⟩) :: .slice (some ⟨g,o,none⟩) n c :: .int .i64 (n:Nat) :: .bool true::u27::u28::j 0::j 1::j 2::j 3::j 4::j 5::j 6::j 7::j 8::j 9::u39::u40::u41::u42::u43::u44::u45::u46::u47::u48::u49::u50::u51::u52::u53::u54::u55::u56::u57::u58::u59::[]),[]⟩) (R:=fun ri=>List.getD ((PEq (.pointer (some ⟨w.heap.size,1,none⟩)))::(PEq (.slice (some ⟨g,o,none⟩) n c))::(PEq (.int .i64 (i:Nat)))::(PEq (.pointer (some ⟨g,o+i*7,none⟩)))::(PEq (.agg #[aa x.name,.bool Q,.slice U Z c1,.slice Y m1 r,.bool S,.slice A2 n2 c2,.slice D2 m2 t]))::(PEq (.pointer (some ⟨w.heap.size+1,1,none⟩)))::(PEq (.slice (some ⟨F,E,none⟩) n M))::(PEq (.int .i64 (i:Nat)))::(PEq (.pointer (some ⟨F,E+i*7,none⟩)))::(PEq (.agg #[aa y.name,.bool T,.slice W n3 c3,.slice D3 m3 O,.bool b4,.slice A4 n4 c4,.slice V X e4]))::fi::fi::fi::fi::[]) ri (fun _ _=>True)) (es:=[⟨10,12,56,#[.string ⟨#[]⟩,.bool false,.slice none 0 0,.slice none 0 0,.bool false,.slice none 0 0,.slice none 0 0],fun I _=>I=#[aa x.name,.bool Q,.slice U Z c1,.slice Y m1 r,.bool S,.slice A2 n2 c2,.slice D2 m2 t]⟩,⟨11,13,56,#[.string ⟨#[]⟩,.bool false,.slice none 0 0,.slice none 0 0,.bool false,.slice none 0 0,.slice none 0 0],fun I _=>I=#[aa y.name,.bool T,.slice W n3 c3,.slice D3 m3 O,.bool b4,.slice A4 n4 c4,.slice V X e4]⟩]) (ow:=[⟨w.heap.size,14,0,51,#[aa a.name,.slice (some ⟨g,o,none⟩) n c],fun _ _=>True⟩,⟨w.heap.size+1,14,0,51,#[aa b.name,.slice (some ⟨F,E,none⟩) n M],fun _ _=>True⟩]) (x0:=(upd (upd (upd (upd (upd (upd (upd (upd (upd (upd (upd (upd (fun _=>undef) 0 u29) 1 u30) 2 u31) 3 u32) 4 u33) 5 u34) 6 u35) 7 u36) 8 u37) 9 u38) 10 u6) 11 u7)) (by kernel_rfl)
      (aw ⟨fun _ _=>rfl,fun _ _=>rfl,fun _ _=>rfl,fun _ _=>rfl,fun _ _=>rfl,fun _ _=>rfl,fun _ _=>rfl,fun _ _=>rfl,fun _ _=>rfl,fun _ _=>rfl,fun _ _=>rfl,fun _ _=>rfl,fun _ _=>rfl,fun _ _=>rfl,trivial⟩) (aw (bF _ 0 (by kernel_rfl))) (uT.get _ ⟨bEq _,bEq _,bEq _,bEq _,bEq _,bEq _,bEq _,bEq _,bEq _,bEq _,Ch,Ch,Ch,Ch,trivial⟩)
      (fmc ⟨fun _ _ _ h _=>h,fmc ⟨fun _ _ _ h _=>h,fun _ h=>nomatch h⟩⟩) (fmc ⟨fun _ _ _ _ _=>True.intro,fmc ⟨fun _ _ _ _ _=>True.intro,fun _ h=>nomatch h⟩⟩) (fmc ⟨⟨by simp,by simp⟩,fmc ⟨⟨by simp,by simp⟩,fun _ h=>nomatch h⟩⟩) L.size
      (fmc ⟨⟨xa,Qr⟩,fmc ⟨⟨xb,by show w.heap.size<=w.heap.size+1;omega⟩,fun _ h=>nomatch h⟩⟩) (Ae (by simp <;> omega))
      (aw ⟨?_,?_,?_,?_,?_,?_,?_,?_,?_,?_,?_,?_,?_,?_,trivial⟩) ?_
     ·exact .inl ⟨by simp,by simp,fun j f z p hd K m=>by
       (try dsimp only);go_simp;have l:=m.out (.pointer (some ⟨w.heap.size,1,none⟩)) _ rfl (ae _)
       exact l⟩
     ·exact .inl ⟨by simp,by simp,fun j f z p hd K m=>by
       have a0:j 0=.pointer (some ⟨w.heap.size,1,none⟩):=hd ⟨0,.data⟩ (by simp) rfl;have y:Blk f w.heap.size 51 #[aa a.name,.slice (some ⟨g,o,none⟩) n c]:=p _ (List.Mem.head _) (by simp [Region.binds]);have aS:f.cell? ⟨w.heap.size,1,none⟩=some (.slice (some ⟨g,o,none⟩) n c):=y.cell 1;(try dsimp only);(try simp only [a0]);go_simp;have l:=m.out (.slice (some ⟨g,o,none⟩) n c) _ rfl (ae _);simp only [a0] at l
       exact l⟩
     ·exact .inl ⟨by simp,by simp,fun j f z p hd K m=>by
       (try dsimp only);go_simp;have l:=m.out (.int .i64 (i:Nat)) _ rfl (ae _)
       exact l⟩
     ·exact .inl ⟨by simp,by simp,fun j f z p hd K m=>by
       have bz:j 1=.slice (some ⟨g,o,none⟩) n c:=hd ⟨1,.data⟩ (by simp) rfl;have aT:j 2=.int .i64 (i:Nat):=hd ⟨2,.data⟩ (by simp) rfl;(try dsimp only);(try simp only [bz,aT]);go_simp;have l:=m.out (.pointer (some ⟨g,o+i*7,none⟩)) _ rfl (ae _);simp only [bz,aT] at l
       exact l⟩
     ·exact .inl ⟨by simp,by simp,fun j f z p hd K m=>by
       have bn:j 3=.pointer (some ⟨g,o+i*7,none⟩):=hd ⟨3,.data⟩ (by simp) rfl;obtain ⟨k0,k1,k2,k3,k4,k5,k6⟩:=lB dq.out (L.trans z);(try dsimp only);(try simp only [bn]);go_simp;have l:=m.out (.agg #[aa x.name,.bool Q,.slice U Z c1,.slice Y m1 r,.bool S,.slice A2 n2 c2,.slice D2 m2 t]) _ rfl (ae _);simp only [bn] at l
       exact l⟩
     ·exact .inl ⟨by simp,by simp,fun j f z p hd K m=>by
       (try dsimp only);go_simp;have l:=m.out (.pointer (some ⟨w.heap.size+1,1,none⟩)) _ rfl (ae _)
       exact l⟩
     ·exact .inl ⟨by simp,by simp,fun j f z p hd K m=>by
       have bu:j 5=.pointer (some ⟨w.heap.size+1,1,none⟩):=hd ⟨5,.data⟩ (by simp) rfl;have y:Blk f (w.heap.size+1) 51 #[aa b.name,.slice (some ⟨F,E,none⟩) n M]:=p _ (List.Mem.tail _ (List.Mem.head _)) (by simp [Region.binds]);have aS:f.cell? ⟨w.heap.size+1,1,none⟩=some (.slice (some ⟨F,E,none⟩) n M):=y.cell 1;(try dsimp only);(try simp only [bu]);go_simp;have l:=m.out (.slice (some ⟨F,E,none⟩) n M) _ rfl (ae _);simp only [bu] at l
       exact l⟩
     ·exact .inl ⟨by simp,by simp,fun j f z p hd K m=>by
       (try dsimp only);go_simp;have l:=m.out (.int .i64 (i:Nat)) _ rfl (ae _)
       exact l⟩
     ·exact .inl ⟨by simp,by simp,fun j f z p hd K m=>by
       have a5:j 6=.slice (some ⟨F,E,none⟩) n M:=hd ⟨6,.data⟩ (by simp) rfl;have b0:j 7=.int .i64 (i:Nat):=hd ⟨7,.data⟩ (by simp) rfl;(try dsimp only);(try simp only [a5,b0]);go_simp;have l:=m.out (.pointer (some ⟨F,E+i*7,none⟩)) _ rfl (ae _);simp only [a5,b0] at l
       exact l⟩
     ·exact .inl ⟨by simp,by simp,fun j f z p hd K m=>by
       have a9:j 8=.pointer (some ⟨F,E+i*7,none⟩):=hd ⟨8,.data⟩ (by simp) rfl;obtain ⟨k0,k1,k2,k3,k4,k5,k6⟩:=lB c9.out (L.trans z);(try dsimp only);(try simp only [a9]);go_simp;have l:=m.out (.agg #[aa y.name,.bool T,.slice W n3 c3,.slice D3 m3 O,.bool b4,.slice A4 n4 c4,.slice V X e4]) _ rfl (ae _);simp only [a9] at l
       exact l⟩
     ·exact .inr (.inl ⟨⟨10,12,56,#[.string ⟨#[]⟩,.bool false,.slice none 0 0,.slice none 0 0,.bool false,.slice none 0 0,.slice none 0 0],fun I _=>I=#[aa x.name,.bool Q,.slice U Z c1,.slice Y m1 r,.bool S,.slice A2 n2 c2,.slice D2 m2 t]⟩,by simp,rfl,by simp,by simp,by simp,fun _ _=>True.intro,fun j f K m=>by
       (try dsimp only);go_simp
       exact m.out⟩)
     ·exact .inr (.inl ⟨⟨11,13,56,#[.string ⟨#[]⟩,.bool false,.slice none 0 0,.slice none 0 0,.bool false,.slice none 0 0,.slice none 0 0],fun I _=>I=#[aa y.name,.bool T,.slice W n3 c3,.slice D3 m3 O,.bool b4,.slice A4 n4 c4,.slice V X e4]⟩,by simp,rfl,by simp,by simp,by simp,fun _ _=>True.intro,fun j f K m=>by
       (try dsimp only);go_simp
       exact m.out⟩)
     ·exact .inr (.inr (.inl ⟨⟨10,12,56,#[.string ⟨#[]⟩,.bool false,.slice none 0 0,.slice none 0 0,.bool false,.slice none 0 0,.slice none 0 0],fun I _=>I=#[aa x.name,.bool Q,.slice U Z c1,.slice Y m1 r,.bool S,.slice A2 n2 c2,.slice D2 m2 t]⟩,by simp,rfl,by simp,by simp,by simp,by simp,True.intro,fun _ _=>True.intro,⟨⟨10,.data⟩,by simp,rfl,rfl⟩,fun j f k hx d hd=>by
       have bl:j 4=.agg #[aa x.name,.bool Q,.slice U Z c1,.slice Y m1 r,.bool S,.slice A2 n2 c2,.slice D2 m2 t]:=hd ⟨4,.data⟩ (by simp) rfl;dsimp only at hx d;refine ⟨[aa x.name,.bool Q,.slice U Z c1,.slice Y m1 r,.bool S,.slice A2 n2 c2,.slice D2 m2 t],fun w' z=>rfl,fun K m=>?_⟩;have cy:f.cell? ⟨k,0,none⟩=some (.string ⟨#[]⟩):=d.cell 0;have aS:f.cell? ⟨k,1,none⟩=some (.bool false):=d.cell 1;have cn:f.cell? ⟨k,2,none⟩=some (.slice none 0 0):=d.cell 2;have cv:f.cell? ⟨k,3,none⟩=some (.slice none 0 0):=d.cell 3;have ck:f.cell? ⟨k,4,none⟩=some (.bool false):=d.cell 4;have di:f.cell? ⟨k,5,none⟩=some (.slice none 0 0):=d.cell 5;have cs:f.cell? ⟨k,6,none⟩=some (.slice none 0 0):=d.cell 6;have dn:f.frozen? ⟨k,0,none⟩=false:=d.frozen 0;have dr:f.frozen? ⟨k,1,none⟩=false:=d.frozen 1;have cr:f.frozen? ⟨k,2,none⟩=false:=d.frozen 2;have ca:f.frozen? ⟨k,3,none⟩=false:=d.frozen 3;have cm:f.frozen? ⟨k,4,none⟩=false:=d.frozen 4;have cc:f.frozen? ⟨k,5,none⟩=false:=d.frozen 5;have db:f.frozen? ⟨k,6,none⟩=false:=d.frozen 6;(try dsimp only);simp only [hx,bl];go_simp;have l:=m.out undef;simp only [hx,bl] at l
       exact l⟩))
     ·exact .inr (.inr (.inl ⟨⟨11,13,56,#[.string ⟨#[]⟩,.bool false,.slice none 0 0,.slice none 0 0,.bool false,.slice none 0 0,.slice none 0 0],fun I _=>I=#[aa y.name,.bool T,.slice W n3 c3,.slice D3 m3 O,.bool b4,.slice A4 n4 c4,.slice V X e4]⟩,by simp,rfl,by simp,by simp,by simp,by simp,True.intro,fun _ _=>True.intro,⟨⟨11,.data⟩,by simp,rfl,rfl⟩,fun j f k hx d hd=>by
       have bY:j 9=.agg #[aa y.name,.bool T,.slice W n3 c3,.slice D3 m3 O,.bool b4,.slice A4 n4 c4,.slice V X e4]:=hd ⟨9,.data⟩ (by simp) rfl;dsimp only at hx d;refine ⟨[aa y.name,.bool T,.slice W n3 c3,.slice D3 m3 O,.bool b4,.slice A4 n4 c4,.slice V X e4],fun w' z=>rfl,fun K m=>?_⟩;have cy:f.cell? ⟨k,0,none⟩=some (.string ⟨#[]⟩):=d.cell 0;have aS:f.cell? ⟨k,1,none⟩=some (.bool false):=d.cell 1;have cn:f.cell? ⟨k,2,none⟩=some (.slice none 0 0):=d.cell 2;have cv:f.cell? ⟨k,3,none⟩=some (.slice none 0 0):=d.cell 3;have ck:f.cell? ⟨k,4,none⟩=some (.bool false):=d.cell 4;have di:f.cell? ⟨k,5,none⟩=some (.slice none 0 0):=d.cell 5;have cs:f.cell? ⟨k,6,none⟩=some (.slice none 0 0):=d.cell 6;have dn:f.frozen? ⟨k,0,none⟩=false:=d.frozen 0;have dr:f.frozen? ⟨k,1,none⟩=false:=d.frozen 1;have cr:f.frozen? ⟨k,2,none⟩=false:=d.frozen 2;have ca:f.frozen? ⟨k,3,none⟩=false:=d.frozen 3;have cm:f.frozen? ⟨k,4,none⟩=false:=d.frozen 4;have cc:f.frozen? ⟨k,5,none⟩=false:=d.frozen 5;have db:f.frozen? ⟨k,6,none⟩=false:=d.frozen 6;(try dsimp only);simp only [hx,bY];go_simp;have l:=m.out undef;simp only [hx,bY] at l
       exact l⟩))
     intro y7 w7 kq p lw ab _ ad cL;obtain ⟨_,za,ez,_⟩:=ab _ (List.Mem.head _);obtain rfl:=ez (by simp);obtain ⟨_,zb,ez,_⟩:=ab _ (List.Mem.tail _ (List.Mem.head _));obtain rfl:=ez (by simp);obtain ⟨g6,_,aC,b7,P,rfl⟩:=ad _ (List.Mem.head _);obtain ⟨k,_,an,b6,J,rfl⟩:=ad _ (List.Mem.tail _ (List.Mem.head _));dsimp only at za zb aC b7 P an b6 J;clear ab ad cL ez;have C:=L.trans kq;have cb:g6<w7.heap.size:=P.lt;have c0:k<w7.heap.size:=J.lt;(try dsimp only);simp only [aC,an];clear aC an;obtain ⟨k0,k1,k2,k3,k4,k5,k6⟩:=P.c7;obtain ⟨l0,l1,l2,l3,l4,l5,l6⟩:=J.c7;by_cases u:x.name=y.name
     ·have cu:(x.name==y.name)=true:=beq_iff_eq.2 u
      have ch:=Qh u;clear u;obtain ⟨v1,a8⟩:=qn (x.x=y.x);obtain ⟨v2,bk⟩:=qn (x.y=y.y);have ao:=Qh a8;have al:=Qh bk;clear a8 bk;go_wp2_with fail;refine (uU w7 Q U Z c1 Y m1 r T W n3 c3 D3 m3 O x.x y.x 1000000 1000000 (HQ.out.1.belw C) (HQ.out.2.2.1.belw C) (by decide) (by decide) v1 ao.out).mono ?_;rintro e' w8 ⟨rfl,D⟩;have G:=C.trans (D.mono C.size);have bg:=za.below D za.lt;have b5:=zb.below D zb.lt;have y6:=P.below D P.lt;have bd:=J.below D J.lt;clear k0 k1 k2 k3 k4 k5 k6 l0 l1 l2 l3 l4 l5 l6;cases v1
      ·have q:v=false:=by
        cases v
        ·rfl
        exfalso;have:=HV.out.1 rfl;subst this;have N:=s.out.1.symm.trans s.out.2;injection N with N;subst N;exact absurd (ao.out.2 rfl) (by decide)
       subst q;go_wp2;go_ret;exact ⟨rfl,G⟩
      have cb:g6<w8.heap.size:=y6.lt;have c0:k<w8.heap.size:=bd.lt;obtain ⟨k0,k1,k2,k3,k4,k5,k6⟩:=y6.c7;obtain ⟨l0,l1,l2,l3,l4,l5,l6⟩:=bd.c7;go_wp2_with fail;refine (uU w8 S A2 n2 c2 D2 m2 t b4 A4 n4 c4 V X e4 x.y y.y 1000000 1000000 (HQ.out.2.1.belw G) (HQ.out.2.2.2.belw G) (by decide) (by decide) v2 al.out).mono ?_;rintro e' w9 ⟨rfl,ac⟩;have bs:=G.trans (ac.mono G.size);have cp:=bg.below ac bg.lt;have c6:=b5.below ac b5.lt;clear k0 k1 k2 k3 k4 k5 k6 l0 l1 l2 l3 l4 l5 l6;cases v2
      ·have q:v=false:=by
        cases v
        ·rfl
        exfalso;have:=HV.out.1 rfl;subst this;have N:=s.out.1.symm.trans s.out.2;injection N with N;subst N;exact absurd (al.out.2 rfl) (by decide)
       subst q;go_wp2;go_ret;exact ⟨rfl,bs⟩
      ·have bb:x=y:=by
        have r:=ch.out;have t:=ao.out.1 (by simp);have O:=al.out.1 (by simp);obtain ⟨x1,x2,x3⟩:=x;obtain ⟨y1,y2,y3⟩:=y;simp only at r t O;rw [r,t,O]
       have cx:Hid (a.pts.take (i+1)=b.pts.take (i+1)):=Qh (je HI.out s.out.1 (by rw [bb];exact s.out.2));clear bb;go_wp2_with fail;go_roundw
       case rel=>exact ⟨i+1,by go_num,by omega,cx,cp,c6,bs⟩
       case measure=>simp [intOf];omega
     have cu:(x.name==y.name)=false:=beq_eq_false_iff_ne.2 u
     have q:v=false:=by
      cases v
      ·rfl
      exfalso;have:=HV.out.1 rfl;subst this;have N:=s.out.1.symm.trans s.out.2;injection N with N;exact u (by rw [N])
     subst q;clear u;go_wp2;go_ret;exact ⟨rfl,C⟩
    have b9:((i:Int)<(n:Int))=False:=by simp;omega
    have t:a.pts=b.pts:=by
     have:=HI.out;rwa [List.take_of_length_le (by rw [c5.out];exact bv),List.take_of_length_le (by rw [b8.out];exact bv)] at this
    have c8:v=true:=HV.out.2 (by
     have r:=HN.out;obtain ⟨a1,a2⟩:=a;obtain ⟨Q,S⟩:=b;simp only at r t
     rw [r,t])
    subst c8;have a6:=xa.cell 1;clear t;go_wp2;go_ret;exact ⟨rfl,L⟩
  have d7:((n:Int)==(n':Int))=false:=by simp;omega
  have dO:¬ (n:Int)=(n':Int):=by omega
  have q:v=false:=by
   cases v
   ·rfl
   exfalso;have:=HV.out.1 rfl;subst this;exact el (H.out.1.1.symm.trans H.out.2.1)
  subst q;have hs:(a.name==b.name)=true:=beq_iff_eq.2 en;clear en;go_in;go_wp2;go_ret;exact ⟨rfl,((ae w).alloc Qr _).alloc (by simp) _⟩
 have hs:(a.name==b.name)=false:=beq_eq_false_iff_ne.2 en
 have q:v=false:=by
  cases v
  ·rfl
  exact absurd (by rw [HV.out.1 rfl]) en
 subst q;clear en;go_in;go_wp2;go_ret;exact ⟨rfl,((ae w).alloc Qr _).alloc (by simp) _⟩
theorem sy (w:World) (A:Option Addr) (n c:Nat) (B:Option Addr) (p d:Nat) (C:Option Addr) (q e:Nat) (L:ag) (h:LkS 1000000 w A n c B p d C q e L) (A':Option Addr) (n' c':Nat) (B':Option Addr) (p' d':Nat) (C':Option Addr) (q' e':Nat) (M:ag) (X:LkS 1000000 w A' n' c' B' p' d' C' q' e' M) (ao:∀ b∈L.bodies,b.pts.length<=1000) (hn:n<=1000) (hp:p<=1000) (hq:q<=1000) (v:Bool) (hv:v=true ↔ L=M) :
 Calls Tryz.prog 16 #[.agg #[aa L.name,.slice A n c,.slice B p d,.slice C q e],.agg #[aa M.name,.slice A' n' c',.slice B' p' d',.slice C' q' e']] w (ax w (.bool v)):=by
 have H:=Qh h;have H':=Qh X;have HV:=Qh hv;have bg:=Qh ao;have m:=Qh (And.intro (And.intro h.bodies.1 X.bodies.1) (And.intro (And.intro h.joints.1 X.joints.1) (And.intro h.drivers.1 X.drivers.1)));have b7:=h.bodies.2.1;have bY:=X.bodies.2.1;have b6:=h.joints.2.1;have bz:=X.joints.2.1;have b5:=h.drivers.2.1;have bw:=X.drivers.2.1;clear h X hv ao
 have al:∀ (P:Prop),P->(L=M->¬ P)->v=false:=by
  intro P hP a7;cases v
  ·rfl
  exact absurd hP (a7 (HV.out.1 rfl))
 have r:=Qh al;clear al;have Q:Below w.heap.size w ((w.alloc (.cells #[aa L.name,.slice A n c,.slice B p d,.slice C q e] 26)).alloc (.cells #[aa M.name,.slice A' n' c',.slice B' p' d',.slice C' q' e'] 26)):=((ae w).alloc Qr _).alloc (by simp) _;by_cases en:L.name=M.name;rotate_left
 ·have hs:(L.name==M.name)=false:=beq_eq_false_iff_ne.2 en
  have k:=r.out _ en (fun h=>by rw [h];simp);subst k;clear en;go_in;go_wp2;go_ret;exact ⟨rfl,Q⟩
 have hs:(L.name==M.name)=true:=beq_iff_eq.2 en;have HN:=Qh en;clear en;by_cases I:n=n';rotate_left
 ·have f1:((n:Int)==(n':Int))=false:=by simp;omega
  have f2:¬ (n:Int)=(n':Int):=by omega
  have k:=r.out _ I (fun h=>by rw [<- m.out.1.1,<- m.out.1.2,h];simp);subst k;clear I;go_in;go_wp2;go_ret;exact ⟨rfl,Q⟩
 subst I;by_cases R:p=p';rotate_left
 ·have f1:((p:Int)==(p':Int))=false:=by simp;omega
  have f2:¬ (p:Int)=(p':Int):=by omega
  have k:=r.out _ R (fun h=>by rw [<- m.out.2.1.1,<- m.out.2.1.2,h];simp);subst k;clear R;go_in;go_wp2;go_ret;exact ⟨rfl,Q⟩
 subst R;by_cases e3:q=q';rotate_left
 ·have f1:((q:Int)==(q':Int))=false:=by simp;omega
  have f2:¬ (q:Int)=(q':Int):=by omega
  have k:=r.out _ e3 (fun h=>by rw [<- m.out.2.2.1,<- m.out.2.2.2,h];simp);subst k;clear e3;go_in;go_wp2;go_ret;exact ⟨rfl,Q⟩
 subst e3;go_in;go_wp2_with fail;go_loopw [5] (fun T wr=>∃ i:Nat,T=.int .i64 (i:Nat)/\i<=n/\Hid (L.bodies.take i=M.bodies.take i)/\Blk wr w.heap.size 26 #[aa L.name,.slice A n c,.slice B p d,.slice C q e]/\Blk wr (w.heap.size+1) 26 #[aa M.name,.slice A' n c',.slice B' p d',.slice C' q e']/\Below w.heap.size w wr) (fun T _=>n-(intOf T).toNat)
 case atStart=>exact ⟨0,rfl,Nat.zero_le _,Qh rfl,(ak w _ _ rfl).alloc _,ak _ _ _ (by simp),Q⟩
 case round =>
  clear Q;obtain ⟨i,rfl,hi,W,s,u,f⟩:=hrel;rename World=>wa;have aS:w.heap.size<wa.heap.size:=s.lt;have a6:w.heap.size+1<wa.heap.size:=u.lt;rcases Nat.lt_or_ge i n with E | aT
  ·have U:((i:Int)<(n:Int))=True:=by simp;omega
   obtain ⟨g,o,x,I,hg,_,t,hX⟩:=(H.out.bodies.bd f).at_ E;subst I;obtain ⟨g9,o9,y,I,a5,_,z,hY⟩:=(H'.out.bodies.bd f).at_ E;subst I;obtain ⟨A1,n1,c1,d0,d1,Z,_⟩:=hX;obtain ⟨A2,n2,c2,f0,f1,a0,_⟩:=hY;have a8:n1<=1000:=by rw [<- Z.1];exact bg.out x (List.mem_of_getElem? t)
   have HM:=Qh (And.intro Z a0);have j:=Qh (And.intro t z);obtain ⟨v1,an⟩:=qn (x=y);have ac:=Qh an;have D:=s.cell 1;have ab:=u.cell 1;have b0:((i:Int)<(n:Int)):=by omega
   clear Z a0 t z an;go_wp2_with fail
   go_region_held3 (fun w'=>Sees wa.heap.size wa w') (first | with_reducible exact Sees.of Qr (by assumption) | with_reducible exact Sees.of Qr (ae _).drew | exact Sees.of Qr (af (ae _) 1) | exact Sees.of Qr (af (by assumption) _))
    (first
     | (go_at_call 45;(with_reducible refine (Ai _ A1 n1 c1 x ?_ A2 n2 c2 y ?_ a8 v1 ac.out).mono ?_);(exact HM.out.1.mk_ (by first | exact (ae wa).drew | exact af (ae wa) _));(exact HM.out.2.mk_ (by first | exact (ae wa).drew | exact af (ae wa) _));rintro e' w8 ⟨rfl,ad⟩;have q8:Below wa.heap.size wa w8:=(by first | exact aj (ae wa).drew ad | exact aj (af (ae wa) _) ad)))
   have aC:=f.trans (q8.mono f.size);have bk:=s.below q8 s.lt;have bb:=u.below q8 u.lt;clear D ab d0 d1 f0 f1;cases v1
   ·have k:=r.out (x≠y) (fun h=>absurd (ac.out.2 h) (by decide)) (fun h=>by
     subst h;have l:=j.out.1.symm.trans j.out.2;injection l with l
     exact fun h=>h l)
    subst k;go_wp2;go_ret;exact ⟨rfl,aC⟩
   have F:x=y:=ac.out.1 (by simp);have J:Hid (L.bodies.take (i+1)=M.bodies.take (i+1)):=Qh (je W.out j.out.1 (by rw [F];exact j.out.2));clear F;go_wp2_with fail;go_roundw
   case rel=>exact ⟨i+1,by go_num,by omega,J,bk,bb,aC⟩
   case measure=>simp [intOf];omega
  have U:((i:Int)<(n:Int))=False:=by simp;omega
  have R:L.bodies=M.bodies:=by
   have:=W.out;rwa [List.take_of_length_le (by rw [m.out.1.1];exact aT),List.take_of_length_le (by rw [m.out.1.2];exact aT)] at this
  have HB:=Qh R;have D:=s.cell 1;have bf:=s.cell 2;clear R;go_wp2_with fail;clear D bf;go_loopw [6] (fun T wr=>∃ N:Nat,T=.int .i64 (N:Nat)/\N<=p/\Hid (L.joints.take N=M.joints.take N)/\Blk wr w.heap.size 26 #[aa L.name,.slice A n c,.slice B p d,.slice C q e]/\Blk wr (w.heap.size+1) 26 #[aa M.name,.slice A' n c',.slice B' p d',.slice C' q e']/\Below w.heap.size w wr) (fun T _=>p-(intOf T).toNat)
  case atStart=>exact ⟨0,rfl,Nat.zero_le _,Qh rfl,s,u,f⟩
  case round =>
   clear s u f;obtain ⟨N,rfl,bv,W,s,u,f⟩:=hrel;rename World=>wi2;have aS:w.heap.size<wi2.heap.size:=s.lt;have a6:w.heap.size+1<wi2.heap.size:=u.lt;rcases Nat.lt_or_ge N p with E | S
   ·have U:((N:Int)<(p:Int))=True:=by simp;omega
    have bu:((N:Int)<(p:Int)):=by omega
    obtain ⟨g,o,x,I,hg,_,t,hX⟩:=(H.out.joints.jt f).at_ E;subst I;obtain ⟨g9,o9,y,I,a5,_,z,hY⟩:=(H'.out.joints.jt f).at_ E;subst I;have j:=Qh (And.intro t z);obtain ⟨d0,d1,d2,d3,d4,d5,d6,_⟩:=hX;obtain ⟨f0,f1,f2,f3,f4,f5,f6,_⟩:=hY;have D:=s.cell 2;have ab:=u.cell 2;have bl:=Fk;have bn:=Fl;clear t z;by_cases G:x.name=y.name;rotate_left
    ·have h0:(x.name==y.name)=false:=beq_eq_false_iff_ne.2 G
     have t0:((⟨x.name.toArray⟩:ByteArray).toList==(⟨y.name.toArray⟩:ByteArray).toList)=false:=by rw [ByteArray.toList_eq,ByteArray.toList_eq];simpa using G
     have k:=r.out _ G (fun h=>by
      subst h;have l:=j.out.1.symm.trans j.out.2;injection l with l
      rw [l];simp)
     subst k;clear G;go_wp2_with fail;go_quiet (fail);go_wp2;go_ret;exact ⟨rfl,by first | exact f | exact af f _⟩
    have h0:(x.name==y.name)=true:=beq_iff_eq.2 G;have t0:((⟨x.name.toArray⟩:ByteArray).toList==(⟨y.name.toArray⟩:ByteArray).toList)=true:=by rw [ByteArray.toList_eq,ByteArray.toList_eq];simpa using G
    have K0:=Qh G;clear G;by_cases O:x.kind=y.kind;rotate_left
    ·have h1:(x.kind==y.kind)=false:=beq_eq_false_iff_ne.2 O
     have k:=r.out _ O (fun h=>by
      subst h;have l:=j.out.1.symm.trans j.out.2;injection l with l
      rw [l];simp)
     subst k;clear O;go_wp2_with fail;go_quiet (fail);go_wp2;go_ret;exact ⟨rfl,by first | exact f | exact af f _⟩
    have h1:(x.kind==y.kind)=true:=beq_iff_eq.2 O;have K1:=Qh O;clear O;by_cases k2:x.a=y.a;rotate_left
    ·have h2:(x.a==y.a)=false:=beq_eq_false_iff_ne.2 k2
     have k:=r.out _ k2 (fun h=>by
      subst h;have l:=j.out.1.symm.trans j.out.2;injection l with l
      rw [l];simp)
     subst k;clear k2;go_wp2_with fail;go_quiet (fail);go_wp2;go_ret;exact ⟨rfl,by first | exact f | exact af f _⟩
    have h2:(x.a==y.a)=true:=beq_iff_eq.2 k2;have K2:=Qh k2;clear k2;by_cases k3:x.point=y.point;rotate_left
    ·have h3:(x.point==y.point)=false:=beq_eq_false_iff_ne.2 k3
     have k:=r.out _ k3 (fun h=>by
      subst h;have l:=j.out.1.symm.trans j.out.2;injection l with l
      rw [l];simp)
     subst k;clear k3;go_wp2_with fail;go_quiet (fail);go_wp2;go_ret;exact ⟨rfl,by first | exact f | exact af f _⟩
    have h3:(x.point==y.point)=true:=beq_iff_eq.2 k3;have K3:=Qh k3;clear k3;by_cases k4:x.b=y.b;rotate_left
    ·have h4:(x.b==y.b)=false:=beq_eq_false_iff_ne.2 k4
     have k:=r.out _ k4 (fun h=>by
      subst h;have l:=j.out.1.symm.trans j.out.2;injection l with l
      rw [l];simp)
     subst k;clear k4;go_wp2_with fail;go_quiet (fail);go_wp2;go_ret;exact ⟨rfl,by first | exact f | exact af f _⟩
    have h4:(x.b==y.b)=true:=beq_iff_eq.2 k4;have K4:=Qh k4;clear k4;by_cases k5:x.on=y.on;rotate_left
    ·have h5:(x.on==y.on)=false:=beq_eq_false_iff_ne.2 k5
     have k:=r.out _ k5 (fun h=>by
      subst h;have l:=j.out.1.symm.trans j.out.2;injection l with l
      rw [l];simp)
     subst k;clear k5;go_wp2_with fail;go_quiet (fail);go_wp2;go_ret;exact ⟨rfl,by first | exact f | exact af f _⟩
    have h5:(x.on==y.on)=true:=beq_iff_eq.2 k5;have K5:=Qh k5;clear k5;by_cases k6:x.to_=y.to_;rotate_left
    ·have h6:(x.to_==y.to_)=false:=beq_eq_false_iff_ne.2 k6
     have k:=r.out _ k6 (fun h=>by
      subst h;have l:=j.out.1.symm.trans j.out.2;injection l with l
      rw [l];simp)
     subst k;clear k6;go_wp2_with fail;go_quiet (fail);go_wp2;go_ret;exact ⟨rfl,by first | exact f | exact af f _⟩
    have h6:(x.to_==y.to_)=true:=beq_iff_eq.2 k6;have K6:=Qh k6;clear k6
    have F:x=y:=by
     have Y:=K0.out;have q1:=K1.out;have q2:=K2.out;have q3:=K3.out;have q4:=K4.out;have q5:=K5.out;have q6:=K6.out;obtain ⟨x0,x1,x2,x3,x4,x5,x6⟩:=x;obtain ⟨y0,y1,y2,y3,y4,y5,y6⟩:=y;simp only at Y q1 q2 q3 q4 q5 q6;rw [Y,q1,q2,q3,q4,q5,q6]
    have J:Hid (L.joints.take (N+1)=M.joints.take (N+1)):=Qh (je W.out j.out.1 (by rw [F];exact j.out.2));clear F;go_wp2_with fail;go_quiet (fail);go_wp2_with fail;go_roundw
    case rel=>first | exact ⟨N+1,by go_num,by omega,J,s,u,f⟩ | exact ⟨N+1,by go_num,by omega,J,s.drewN _,u.drewN _,af f _⟩
    case measure=>simp [intOf];omega
   have U:((N:Int)<(p:Int))=False:=by simp;omega
   have R:L.joints=M.joints:=by
    have:=W.out;rwa [List.take_of_length_le (by rw [m.out.2.1.1];exact S),List.take_of_length_le (by rw [m.out.2.1.2];exact S)] at this
   have br:=Qh R;have D:=s.cell 2;clear R;go_wp2_with fail;clear D;go_loopw [7] (fun T wr=>∃ K:Nat,T=.int .i64 (K:Nat)/\K<=q/\Hid (L.drivers.take K=M.drivers.take K)/\Blk wr w.heap.size 26 #[aa L.name,.slice A n c,.slice B p d,.slice C q e]/\Blk wr (w.heap.size+1) 26 #[aa M.name,.slice A' n c',.slice B' p d',.slice C' q e']/\Below w.heap.size w wr) (fun T _=>q-(intOf T).toNat)
   case atStart=>exact ⟨0,rfl,Nat.zero_le _,Qh rfl,s,u,f⟩
   case round =>
    clear s u f;obtain ⟨K,rfl,bx,W,s,u,f⟩:=hrel;rename World=>wi3;have aS:w.heap.size<wi3.heap.size:=s.lt;have a6:w.heap.size+1<wi3.heap.size:=u.lt;rcases Nat.lt_or_ge K q with E | V
    ·have U:((K:Int)<(q:Int))=True:=by simp;omega
     have bu:((K:Int)<(q:Int)):=by omega
     obtain ⟨g,o,x,I,hg,_,t,hX⟩:=(H.out.drivers.dr f).at_ E;subst I;obtain ⟨g9,o9,y,I,a5,_,z,hY⟩:=(H'.out.drivers.dr f).at_ E;subst I;have j:=Qh (And.intro t z);obtain ⟨d0,d1,_⟩:=hX;obtain ⟨f0,f1,_⟩:=hY;have D:=s.cell 3;have ab:=u.cell 3;have bl:=Fm;have bn:=Fn;clear t z;by_cases G:x.name=y.name;rotate_left
     ·have h0:(x.name==y.name)=false:=beq_eq_false_iff_ne.2 G
      have t0:((⟨x.name.toArray⟩:ByteArray).toList==(⟨y.name.toArray⟩:ByteArray).toList)=false:=by rw [ByteArray.toList_eq,ByteArray.toList_eq];simpa using G
      have k:=r.out _ G (fun h=>by
       subst h;have l:=j.out.1.symm.trans j.out.2;injection l with l
       rw [l];simp)
      subst k;clear G;go_wp2_with fail;go_quiet (fail);go_wp2;go_ret;exact ⟨rfl,by first | exact f | exact af f _⟩
     have h0:(x.name==y.name)=true:=beq_iff_eq.2 G;have t0:((⟨x.name.toArray⟩:ByteArray).toList==(⟨y.name.toArray⟩:ByteArray).toList)=true:=by rw [ByteArray.toList_eq,ByteArray.toList_eq];simpa using G
     have K0:=Qh G;clear G;by_cases O:x.body=y.body;rotate_left
     ·have h1:(x.body==y.body)=false:=beq_eq_false_iff_ne.2 O
      have k:=r.out _ O (fun h=>by
       subst h;have l:=j.out.1.symm.trans j.out.2;injection l with l
       rw [l];simp)
      subst k;clear O;go_wp2_with fail;go_quiet (fail);go_wp2;go_ret;exact ⟨rfl,by first | exact f | exact af f _⟩
     have h1:(x.body==y.body)=true:=beq_iff_eq.2 O;have K1:=Qh O;clear O
     have F:x=y:=by
      have Y:=K0.out;have q1:=K1.out;obtain ⟨x0,x1⟩:=x;obtain ⟨y0,y1⟩:=y;simp only at Y q1;rw [Y,q1]
     have J:Hid (L.drivers.take (K+1)=M.drivers.take (K+1)):=Qh (je W.out j.out.1 (by rw [F];exact j.out.2));clear F;go_wp2_with fail;go_quiet (fail);go_wp2_with fail;go_roundw
     case rel=>first | exact ⟨K+1,by go_num,by omega,J,s,u,f⟩ | exact ⟨K+1,by go_num,by omega,J,s.drewN _,u.drewN _,af f _⟩
     case measure=>simp [intOf];omega
    have U:((K:Int)<(q:Int))=False:=by simp;omega
    have R:L.drivers=M.drivers:=by
     have:=W.out;rwa [List.take_of_length_le (by rw [m.out.2.2.1];exact V),List.take_of_length_le (by rw [m.out.2.2.2];exact V)] at this
    have a9:=Qh R;have D:=s.cell 3;clear R
    have bs:v=true:=HV.out.2 (by
     have Y:=HN.out;have q1:=HB.out;have q2:=br.out;have q3:=a9.out;obtain ⟨a1,a2,a3,a4⟩:=L;obtain ⟨b1,b2,b3,b4⟩:=M;simp only at Y q1 q2 q3
     rw [Y,q1,q2,q3])
    subst bs;go_wp2;go_ret;exact ⟨rfl,f⟩
theorem rdw (q:Rat):RdW (rd q):=CL q
theorem dk.err {s:List UInt8}{x:Int}{L:ag}(h:dk s x L) (a:x≠0):L=L0:=by
 cases h with
 | split _ _ _ h=>exact h
 | read _ _ _ _ h=>exact h
 | check _ _ _ _ _ h=>exact h
 | ok l hs hr hc h hL=>exact absurd h a
theorem LkS.mono {k i:Nat}{w:World}{A B C:Option Addr}{n c p d q e:Nat}{L:ag}(h:LkS k w A n c B p d C q e L) (j:k<=i):LkS i w A n c B p d C q e L:=by
 have l:∀ g o r,cY w g o r k->cY w g o r i:=fun g o r ⟨b,A,n,c,D,m,e,x,t,E,a⟩=>⟨b,A,n,c,D,m,e,x,t,E,a.1,a.2.1,a.2.2.1,Nat.le_trans a.2.2.2.1 j,Nat.le_trans a.2.2.2.2 j⟩
 refine ⟨h.name,h.bodies.mono_ fun g o b _ z=>?_,h.joints,h.drivers⟩;obtain ⟨y,s,u,c0,c1,v,F⟩:=z;exact ⟨y,s,u,c0,c1,v.mono_ fun g o m _ f=>⟨f.1,l _ _ _ f.2.1,l _ _ _ f.2.2.1,f.2.2.2⟩,F⟩
theorem jD {L:ag}(h:aG L=0):tI L:=by
 have a:=bI h;exact ⟨fun b hb m c=>⟨((a.body b hb).pts m c).x,((a.body b hb).pts m c).y⟩,by have:=a.ok.nb;omega,by have:=a.ok.nj;omega,by have:=a.ok.nd;omega,fun b hb=>by have:=(a.ok.body b hb).np;omega⟩
def frL:ag:=⟨[109],[bdF],[],[]⟩
def bdK:BodyL:=⟨[99,114,97,110,107],[mkO,⟨[65],rd 1,rd 0⟩]⟩
def nY:ag:=⟨[109],[bdF,bdK],[⟨[106],0,1,0,0,0,0⟩],[]⟩
def crT:List UInt8:=[98,111,100,121,32,99,114,97,110,107,32,123,32,79,32,48,32,48,59,32,65,32,49,32,48,59].append [32,125,32,112,105,110,32,106,32,99,114,97,110,107,46,79,32,102,114,97,109,101,46,79,59]
def crE:bL:=⟨0,[],crT⟩
theorem qo:aG frL=0:=by decide +kernel
theorem kC:aG nY=0:=by decide +kernel
theorem Ci:cg frL=0:=by decide +kernel
theorem Aj:Bn.shape (cS (bX frL++32::crT))=some (fh nY):=by decide +kernel
theorem Al:fm nY.bodies≠true:=by decide +kernel
theorem Ea:LkW nY:=by
 intro b hb m c;have h:b=bdF\/b=bdK:=by simpa [nY] using hb
 have a:m=mkO\/m=mkC\/m=⟨[65],rd 1,rd 0⟩:=by
  rcases h with rfl | rfl
  ·have:m=mkO\/m=mkC:=by simpa [bdF] using c
   rcases this with h | h
   ·exact .inl h
   exact .inr (.inl h)
  have:m=mkO\/m=⟨[65],rd 1,rd 0⟩:=by simpa [bdK] using c
  rcases this with h | h
  ·exact .inl h
  exact .inr (.inr h)
 rcases a with rfl | rfl | rfl <;> exact ⟨rdw _,rdw _⟩
theorem Cj:dk (bX frL++32::crT) 0 nY:=by
 have h:=Aj
 cases ht:cS (bX frL++32::crT) with
 | err n=>rw [ht] at h;cases h
 | ok l =>
  rw [ht] at h;injection h with h;obtain ⟨b,a⟩:=wQ (l:=l) h (bI kC) Ea Al;exact .ok l (.ok (by decide +kernel) ht rfl) b (by rw [a];exact kC) rfl a.symm
theorem Ck (w:World):Calls Tryz.prog 25 #[] w (fun e u=>∃ g,e=.returned (.agg #[aa frL.name,.slice (some ⟨g,0,none⟩) 1 1,.slice none 0 0,.slice none 0 0])/\LkS 40 u (some ⟨g,0,none⟩) 1 1 none 0 0 none 0 0 frL/\Below w.heap.size w u):=by
 go_in;go_wp2_with fail;have o:=(ae w).alloc Qr (.cells #[.string ⟨#[]⟩,.slice none 0 0,.slice none 0 0,.slice none 0 0] 26);have x0:Blk (w.alloc (.cells #[.string ⟨#[]⟩,.slice none 0 0,.slice none 0 0,.slice none 0 0] 26)) w.heap.size 26 #[.string ⟨#[]⟩,.slice none 0 0,.slice none 0 0,.slice none 0 0]:=Blk.new _ _ _;generalize (w.alloc (.cells #[.string ⟨#[]⟩,.slice none 0 0,.slice none 0 0,.slice none 0 0] 26))=w0 at o x0 ⊢;refine (FN w0 4 (by decide) (by decide)).mono ?_;rintro Q a ⟨b,A,n,c,D,m,e,rfl,B,j⟩;have k:=x0.below j x0.lt;have q1:=o.trans (j.mono o.size);have F:=k.lt;have H:¬ w.heap.size=a.heap.size:=by omega
 have E:¬ w.heap.size=a.heap.size+1:=by omega
 obtain ⟨N,O,P,K⟩:=k.c4;obtain ⟨b0,G,M,J⟩:=k.f4;have y:=Qh B;clear x0 o j B;go_wp2_with fail;refine bodyPost_ret (v:=.agg #[aa [109],.slice (some ⟨a.heap.size+1,0,none⟩) 1 1,.slice none 0 0,.slice none 0 0]) (by simp [results,Tryz.results25,go_sem, *] <;> trivial) rfl ?_;have C:((((a.setCell ⟨w.heap.size,0,none⟩ (.string ⟨#[109]⟩)).setCell ⟨w.heap.size,1,none⟩ (.slice (some ⟨a.heap.size+1,0,none⟩) 1 1)).setCell ⟨w.heap.size,2,none⟩ (.slice none 0 0)).setCell ⟨w.heap.size,3,none⟩ (.slice none 0 0)).heap.size=a.heap.size:=by simp [World.setCell]
 have x:=lm k ⟨rfl,rfl,rfl,rfl⟩ (.string ⟨#[109]⟩) (.slice (some ⟨a.heap.size+1,0,none⟩) 1 1) (.slice none 0 0) (.slice none 0 0);have l:QD _ b A n c D m e (rd 4) 1:=QD.tch y.out x;have q:=cO q1 Qr (.string ⟨#[109]⟩) (.slice (some ⟨a.heap.size+1,0,none⟩) 1 1) (.slice none 0 0) (.slice none 0 0);generalize ((((a.setCell ⟨w.heap.size,0,none⟩ (.string ⟨#[109]⟩)).setCell ⟨w.heap.size,1,none⟩ (.slice (some ⟨a.heap.size+1,0,none⟩) 1 1)).setCell ⟨w.heap.size,2,none⟩ (.slice none 0 0)).setCell ⟨w.heap.size,3,none⟩ (.slice none 0 0))=w4 at C l q ⊢;rw [<- C];clear k x y N O P K b0 G M J;have I:=FS (w:=w4) (nm:=[67]) (t:=56) (l.mono (show 1<=40 by decide)) (qv0 w4).rd_ rfl;obtain ⟨p,i,r⟩:=I;injection i with i;injection i with i;injection i with i;subst i;have L:=(ae w4).alloc Qr (.cells #[.string ⟨#[79]⟩,.bool false,.slice none 0 0,.slice none 0 0,.bool false,.slice none 0 0,.slice none 0 0,aa [67],.bool b,.slice A n c,.slice D m e,.bool false,.slice none 0 0,.slice none 0 0] 56);have d:(w4.alloc (.cells #[.string ⟨#[79]⟩,.bool false,.slice none 0 0,.slice none 0 0,.bool false,.slice none 0 0,.slice none 0 0,aa [67],.bool b,.slice A n c,.slice D m e,.bool false,.slice none 0 0,.slice none 0 0] 56)).heap.size=w4.heap.size+1:=by simp
 have f:=q.trans (L.mono q.size);generalize (w4.alloc (.cells #[.string ⟨#[79]⟩,.bool false,.slice none 0 0,.slice none 0 0,.bool false,.slice none 0 0,.slice none 0 0,aa [67],.bool b,.slice A n c,.slice D m e,.bool false,.slice none 0 0,.slice none 0 0] 56))=w5 at r d f ⊢;generalize w4.heap.size=p at r d ⊢;rw [<- d];have z:=(ae w5).alloc Qr (.cells #[aa [102,114,97,109,101],.slice (some ⟨p,0,none⟩) 2 2] 51);have s:=Blk.new w5 51 #[aa [102,114,97,109,101],.slice (some ⟨p,0,none⟩) 2 2];exact ⟨w5.heap.size,rfl,⟨by show ([109]:List UInt8).length<_;decide,E4 s.lt ⟨_,_,_,s.cell 0,s.cell 1,r.mk_ z,by show ([102,114,97,109,101]:List UInt8).length<_;decide⟩,⟨rfl,Qr,fun h=>absurd h (by omega)⟩,⟨rfl,Qr,fun h=>absurd h (by omega)⟩⟩,f.trans (z.mono f.size)⟩
theorem uV (w:World):Calls Tryz.prog 26 #[] w (ax w (.agg #[.int .i64 crE.kind,aa crE.name,aa crE.text])):=by
 go_in;go_wp2_with fail;refine bodyPost_ret (v:=.agg #[.int .i64 crE.kind,aa crE.name,aa crE.text]) (by simp [results,Tryz.results26,go_sem, *] <;> first | rfl | exact ⟨rfl,rfl⟩ | exact ⟨rfl,rfl,rfl⟩) rfl ?_;exact ⟨rfl,(ae w).alloc Qr _⟩
theorem Fo (N:Nat->Prop) (B:Nat) (w:World) (A:Option Addr) (n c:Nat) (C:Option Addr) (p d:Nat) (D:Option Addr) (q e:Nat) (L:ag) (h:LkS 130 w A n c C p d D q e L) (s:aG L=0) (hB:B<=w.heap.size) (hN:∀ x,N x->x<w.heap.size):Calls Tryz.prog 12 #[.agg #[aa L.name,.slice A n c,.slice C p d,.slice D q e]] w (fun i l=>∃ gl,i=.returned (.tuple #[.pointer (some ⟨gl,0,none⟩),.nilIface])/\jB N B l gl ⟨L,[],[],[]⟩/\Below w.heap.size w l):=by
 have f:=(ae w).alloc Qr (.cells #[aa L.name,.slice A n c,.slice C p d,.slice D q e] 26);have x0:Blk (w.alloc (.cells #[aa L.name,.slice A n c,.slice C p d,.slice D q e] 26)) w.heap.size 26 #[aa L.name,.slice A n c,.slice C p d,.slice D q e]:=Blk.new _ _ _;have g:=Qh (h.belw f);go_in;go_wp2_with fail;generalize (w.alloc (.cells #[aa L.name,.slice A n c,.slice C p d,.slice D q e] 26))=w0 at f x0 g ⊢;refine (dJ w0 A n c C p d D q e L 130 g.out (by decide) (by decide) 0 s).mono ?_;rintro i y ⟨rfl,a⟩;rw [aO];have K:=x0.below a x0.lt;have E:=Qh (g.out.belw a);have q1:=f.trans (a.mono f.size);obtain ⟨H,I,J,z⟩:=K.c4;clear x0 f a h;go_wp2_with fail;refine (DV y A n c C p d D q e L E.out (jD s)).mono ?_;rintro i u ⟨t,v,c2,m,p2,d2,r,q2,f2,rfl,b,j⟩;have o:=q1.trans (j.mono q1.size);have F:=Qh b.lkY;clear H I J z b;go_wp2_with fail;go_ret2;have q3:=(ae u).alloc Qr (.cells #[aa L.name,.slice t v c2,.slice m p2 d2,.slice r q2 f2,.slice none 0 0,.slice none 0 0,.slice none 0 0] 73);have G:=o.size;refine ⟨u.heap.size,rfl,⟨t,v,c2,m,p2,d2,r,q2,f2,.slice none 0 0,.slice none 0 0,.slice none 0 0,⟨Blk.new _ _ _,by omega,fun x k=>?_,fun k=>?_,rfl,rfl,rfl,rfl,rfl,rfl,rfl⟩,F.out.blw q3,bC.nil,bC.nil,bC.nil,fun x e=>by cases e⟩,o.trans (q3.mono G)⟩
 ·have:=hN x k
  have:=q3.size;omega
 have:=hN _ k;omega
theorem sA {s:Nat}:∀ {a:List (List Value)}{i j:Nat}{cs:List Value}{u:Value},(∀ x∈a,x.length=s)->a[i]?=some cs->j<s->(a.set i (cs.set j u)).flatten=a.flatten.set (i*s+j) u
 | [],i,j,cs,u,_,h,_=>by simp at h
 | x::a,0,j,cs,u,hl,h,hj=>by
  have b:=hl x (by simp);simp only [List.getElem?_cons_zero,Option.some.injEq] at h;subst h;rw [List.set_cons_zero,List.flatten_cons,List.flatten_cons,Nat.zero_mul,Nat.zero_add,List.set_append_left _ _ (by omega)]
 | x::a,i+1,j,cs,u,hl,h,hj=>by
  have b:=hl x (by simp);have d:(i+1)*s=i*s+s:=Nat.succ_mul i s;rw [List.set_cons_succ,List.flatten_cons,List.flatten_cons,List.set_append_right _ _ (by omega),b,show (i+1)*s+j-s=i*s+j by omega,sA (fun y c=>hl y (by simp [c])) (by simpa using h) hj]
theorem aq.set {α:Type}{T0:TypeId}{Pc:World->List Value->α->Prop}{s:Nat}{w:World}{B g n c i j:Nat}{l:List α}{a a':α}{u:Value}(h:aq T0 Pc s w B (.slice (some ⟨g,0,none⟩) n c) n l) (M:l[i]?=some a) (X:j<s) (V:noW u=true)
 (P:∀ cs b,Tch (bi T0) w (w.setCell ⟨g,i*s+j,none⟩ u)->Pc w cs b->Pc (w.setCell ⟨g,i*s+j,none⟩ u) cs b) (Y:∀ cs,Pc (w.setCell ⟨g,i*s+j,none⟩ u) cs a->Pc (w.setCell ⟨g,i*s+j,none⟩ u) (cs.set j u) a') :
 aq T0 Pc s (w.setCell ⟨g,i*s+j,none⟩ u) B (.slice (some ⟨g,0,none⟩) n c) n (l.set i a')/\Tch (bi T0) w (w.setCell ⟨g,i*s+j,none⟩ u)/\B<=g/\g<w.heap.size:=by
 obtain ⟨L,F,⟨v,q⟩,p,e,H,o,K⟩:=h
 obtain ⟨cur,hB,hb,E,z,G,A,f⟩:∃ cur,B<=g/\w.heap[g]?=some (.cells cur T0 (0,0))/\n<=c/\c<=maxLen/\cur.size=c*s/\cur.toList.take (n*s)=F/\cur.toList.all noW=true:=by
  rcases q with ⟨e,_⟩ | ⟨Z,I,cur,e,Q,W,R,J,O,S,U⟩
  ·cases e
  injection e with e1 _ e3;injection e1 with e1;injection e1 with e1;subst e1 e3;exact ⟨cur,Q,W,R,J,O,S,U⟩
 have D:i<n:=by rw [<- L];exact (List.getElem?_eq_some_iff.1 M).1
 have t:p[i]?=some p[i]:=List.getElem?_eq_getElem (by omega);have J:(i+1)*s=i*s+s:=Nat.succ_mul i s;have O:(i+1)*s<=n*s:=Nat.mul_le_mul_right _ D;have N:Blk w g T0 cur:=hb;have x:=N.set_ (i*s+j) u;have C:Tch (bi T0) w (w.setCell ⟨g,i*s+j,none⟩ u):=Tch.set N (by simp [bi]) f _ _
 have r:(cur.setIfInBounds (i*s+j) u).toList.take (n*s)=F.set (i*s+j) u:=by
  rw [Array.toList_setIfInBounds,List.take_set,A]
 refine ⟨⟨by rw [List.length_set,L],F.set (i*s+j) u,⟨by rw [List.length_set,v],.inr ⟨g,c,_,rfl,hB,x,E,z,by rw [Array.size_setIfInBounds,G],r,?_⟩⟩,p.set i (p[i].set j u),?_,by rw [List.length_set,List.length_set,H],fun y m=>?_,fun k b T d hd=>?_⟩,C,hB,lt_of_block hb⟩
 ·rw [Array.toList_setIfInBounds]
  rw [List.all_eq_true] at f ⊢;intro y m;rcases List.mem_or_eq_of_mem_set m with m | m
  ·exact f y m
  rw [m];exact V
 ·rw [sA o t X,e]
 ·rcases List.mem_or_eq_of_mem_set m with m | m
  ·exact o y m
  rw [m,List.length_set];exact o _ (List.getElem_mem _)
 rw [List.getElem?_set] at d hd;by_cases hk:i=k
 ·subst hk
  rw [if_pos rfl,if_pos (by omega)] at d;rw [if_pos rfl,if_pos (by omega)] at hd;injection d with d;injection hd with hd;subst d hd;exact Y _ (P _ _ C (K i a _ M t))
 rw [if_neg hk] at d hd;exact P _ _ C (K k b T d hd)
theorem aq.cell {α:Type}{T0:TypeId}{Pc:World->List Value->α->Prop}{s:Nat}{w:World}{B g n c i j:Nat}{l:List α}(h:aq T0 Pc s w B (.slice (some ⟨g,0,none⟩) n c) n l) (u:i<n) (C:j<s):w.frozen? ⟨g,i*s+j,none⟩=false/\(∃ v,w.cell? ⟨g,i*s+j,none⟩=some v):=by
 obtain ⟨q,t,⟨k,a⟩,_⟩:=h;rcases a with ⟨e,_⟩ | ⟨x,d,cur,e,r,f,A,E,y,D,p⟩
 ·cases e
 injection e with e1 _ e3;injection e1 with e1;injection e1 with e1;subst e1 e3;have z:(i+1)*s=i*s+s:=Nat.succ_mul i s;have o:(i+1)*s<=c*s:=Nat.mul_le_mul_right _ (by omega);have m:Blk w g T0 cur:=f;have b:i*s+j<cur.size:=by omega
 exact ⟨m.frozen _,cur[i*s+j],by unfold World.cell?;rw [f];simp [b]⟩
theorem aq.some_ {α:Type}{T0:TypeId}{Pc:World->List Value->α->Prop}{s:Nat}{w:World}{B n c i:Nat}{A:Option Addr}{l:List α}{a:α}(h:aq T0 Pc s w B (.slice A n c) n l) (b:l[i]?=some a):∃ g,A=some ⟨g,0,none⟩:=by
 obtain ⟨g,_,e,_⟩:=h.at_ b;exact ⟨g,e⟩
def kD (L:ag) (i:Nat) (b:BodyL) (nm:List UInt8):ag:=⟨L.name,L.bodies.set i ⟨nm,b.pts⟩,L.joints,L.drivers⟩
def tM (L:ag) (old new:List UInt8) (x:Int) (L':ag):Prop:=(gG (L.bodies.map BodyL.name) old=-1/\x=5/\L'=L0)\/∃ (i:Nat) (b:BodyL),gG (L.bodies.map BodyL.name) old=(i:Nat)/\L.bodies[i]?=some b/\((aG (kD L i b new)≠0/\x=aG (kD L i b new)/\L'=L0)\/(aG (kD L i b new)=0/\x=0/\L'=kD L i b new))
theorem Eb (L:ag) (old new:List UInt8):∃ x L',tM L old new x L':=by
 rcases idxN_cases (L.bodies.map BodyL.name) old with h | ⟨i,h,a⟩
 ·exact ⟨5,L0,.inl ⟨h,rfl,rfl⟩⟩
 rw [List.getElem?_map] at a;obtain ⟨b,hb,_⟩:=Option.map_eq_some_iff.1 a;by_cases hx:aG (kD L i b new)=0
 ·exact ⟨0,_,.inr ⟨i,b,h,hb,.inr ⟨hx,rfl,rfl⟩⟩⟩
 exact ⟨_,L0,.inr ⟨i,b,h,hb,.inl ⟨hx,rfl,rfl⟩⟩⟩
theorem CpO.lkS {B:Nat}{w:World}{A C D:Option Addr}{n c p d q e:Nat}{L:ag}(h:CpO B w A n c C p d D q e L):LkS 130 w A n c C p d D q e L:=h.lkY.out
theorem F0 (w:World) (A:Option Addr) (n c:Nat) (B:Option Addr) (p d:Nat) (C:Option Addr) (q e:Nat) (L:ag) (h:LkS 130 w A n c B p d C q e L) (a:tI L):Calls Tryz.prog 74 #[.agg #[aa L.name,.slice A n c,.slice B p d,.slice C q e]] w (sn w L) :=
 zH w A n c B p d C q e L h a.ok (by rw [<- h.bodies.1];exact a.nb) (by rw [<- h.joints.1];exact a.nj) (by rw [<- h.drivers.1];exact a.nd) a.np
theorem nA {B h k:Nat}{w:World}{A C D:Option Addr}{n c p d q e:Nat}{L:ag}(hb:aq 51 (BdC 130) 2 w B (.slice A n c) n L.bodies) (j:aq 81 JtC 7 w h (.slice C p d) p L.joints) (hd:aq 86 DrC 2 w k (.slice D q e) q L.drivers) (i:NmL L.name):LkY 130 w A n c C p d D q e L:=fun _ _ t f a g b =>
 ⟨i,(hb.tch t f (fun _ _ x=>x.tch t b)).bds,(j.tch t a (fun _ _ x=>x)).jts,(hd.tch t g (fun _ _ x=>x)).drs⟩
theorem Am (w:World) (A:Option Addr) (n c:Nat) (C:Option Addr) (p d:Nat) (D:Option Addr) (q e:Nat) (L:ag) (h:LkS 130 w A n c C p d D q e L) (hL:aG L=0) (old new:List UInt8) (O:NmL new) (x:Int) (L':ag) (hR:tM L old new x L'):Calls Tryz.prog 36 #[.agg #[aa L.name,.slice A n c,.slice C p d,.slice D q e],aa old,aa new] w (iq w (bo x) L'):=by
 have x0:Blk (((w.alloc (.cells #[aa L.name,.slice A n c,.slice C p d,.slice D q e] 26)).alloc (.cells #[aa old] 9)).alloc (.cells #[.string ⟨#[]⟩,.slice none 0 0,.slice none 0 0,.slice none 0 0] 26)) w.heap.size 26 #[aa L.name,.slice A n c,.slice C p d,.slice D q e]:=((Blk.new _ _ _).alloc _).alloc _;have y0:Blk (((w.alloc (.cells #[aa L.name,.slice A n c,.slice C p d,.slice D q e] 26)).alloc (.cells #[aa old] 9)).alloc (.cells #[.string ⟨#[]⟩,.slice none 0 0,.slice none 0 0,.slice none 0 0] 26)) (w.heap.size+1) 9 #[aa old]:=(ak _ _ _ (by simp)).alloc _;have X:Blk (((w.alloc (.cells #[aa L.name,.slice A n c,.slice C p d,.slice D q e] 26)).alloc (.cells #[aa old] 9)).alloc (.cells #[.string ⟨#[]⟩,.slice none 0 0,.slice none 0 0,.slice none 0 0] 26)) (w.heap.size+1+1) 26 #[.string ⟨#[]⟩,.slice none 0 0,.slice none 0 0,.slice none 0 0]:=ak _ _ _ (by simp);have W:=(((ae w).alloc Qr (.cells #[aa L.name,.slice A n c,.slice C p d,.slice D q e] 26)).alloc (by simp) (.cells #[aa old] 9)).alloc (by simp;omega) (.cells #[.string ⟨#[]⟩,.slice none 0 0,.slice none 0 0,.slice none 0 0] 26);have Y:=Qh (h.belw W);have HR:=Qh hR;have ad:=Qh O;clear h hR O;go_in;go_wp2_with fail;generalize (((w.alloc (.cells #[aa L.name,.slice A n c,.slice C p d,.slice D q e] 26)).alloc (.cells #[aa old] 9)).alloc (.cells #[.string ⟨#[]⟩,.slice none 0 0,.slice none 0 0,.slice none 0 0] 26))=w0 at x0 y0 X W Y ⊢;refine (dJ w0 A n c C p d D q e L 130 Y.out (by decide) (by decide) 0 hL).mono ?_;rintro e' w1 ⟨rfl,l⟩;rw [aO];have x1:=x0.below l x0.lt;have y1:=y0.below l y0.lt;have z1:=X.below l X.lt;have H1:=Qh (Y.out.belw l);have q1:=W.trans (l.mono W.size);obtain ⟨a0,a1,a2,a3⟩:=x1.c4;have m:=jD hL;clear x0 y0 X W l Y;go_wp2_with fail;refine (F0 w1 A n c C p d D q e L H1.out m).mono ?_;rintro e' F ⟨A2,n2,c2,s,p2,d2,z,B,f2,rfl,k,o⟩;obtain rfl:n=n2:=by rw [<- k.bd.1,H1.out.bodies.1]
 have y2:=y1.below o y1.lt;have z2:=z1.below o z1.lt;have q2:=q1.trans (o.mono q1.size);have aS:=q1.size;have a5:w.heap.size+1+1<w1.heap.size:=z1.lt;have Q:=k.bd.row;have qa:=(ae F).alloc Qr (.cells #[.string ⟨#[]⟩,.slice none 0 0,.slice none 0 0,.slice none 0 0] 26);have E:=(ae F).alloc Qr (.cells #[aa L.name,.slice A2 n c2,.slice s p2 d2,.slice z B f2] 26);have K:=Blk.new F 26 #[aa L.name,.slice A2 n c2,.slice s p2 d2,.slice z B f2];have BD:=Qh (Q.blw E);have JT:=Qh (k.jt.blw E);have DR:=Qh (k.dr.blw E);have y3:=y2.below E y2.lt;have z3:=z2.below E z2.lt;have q3:=q2.trans (E.mono q2.size);have an:=K.lt;have aT:=z2.lt;have ac:n<=1000:=by rw [<- k.bd.1];exact m.nb
 have a7:w1.heap.size<=F.heap.size:=o.size;clear x1 y1 z1 q1 o a0 a1 a2 a3 k Q y2 z2 q2 qa m H1;go_wp2_with fail;generalize (F.alloc (.cells #[aa L.name,.slice A2 n c2,.slice s p2 d2,.slice z B f2] 26))=w3 at K BD JT DR y3 z3 q3 an E ⊢;refine (zQ w3 A2 n c2 L.bodies BD.out.bds ac (w.heap.size+1) old (show w3.cell? ⟨w.heap.size+1,0,none⟩=some (aa old) from by simpa using y3.cell 0)).mono ?_;rintro e' H ⟨rfl,g⟩;have f:=Qh (BD.out.blw g);have V:=Qh (JT.out.blw g);have U:=Qh (DR.out.blw g);have G:=K.below g K.lt;have J:=z3.below g z3.lt;have q4:=q3.trans (g.mono q3.size);clear BD JT DR y3 E K z3 q3 g;obtain ⟨b0,b1,b2,b3⟩:=J.c4;obtain ⟨f0,f1,T,f3⟩:=J.f4;rcases HR.out with ⟨hi,rfl,rfl⟩ | ⟨i,b,hi,hb,hc⟩
 ·rw [hi]
  go_wp2_with fail;refine bodyPost_ret (v:=.tuple #[.agg #[.string ⟨#[]⟩,.slice none 0 0,.slice none 0 0,.slice none 0 0],.iface 58 (.int .i64 5)]) (by simp [results,Tryz.results36,go_sem, *] <;> trivial) rfl ?_;rw [eVp (show (5:Int)≠0 by decide)];exact ⟨_,_,_,_,_,_,_,_,_,rfl,LkY.zero _ _,cO q4 (by omega) _ _ _ _⟩
 rw [hi];have al:i<n:=by rw [<- f.out.1];exact (List.getElem?_eq_some_iff.1 hb).1
 obtain ⟨a,rfl⟩:=f.out.some_ hb;obtain ⟨k1,v1,k2⟩:=f.out.cell (j:=0) al (by decide);have k1:H.frozen? ⟨a,i*2,none⟩=false:=k1;have k2:H.cell? ⟨a,i*2,none⟩=some v1:=k2;obtain ⟨s1,s2,s3,s4⟩:=f.out.set (j:=0) (u:=aa new) (a':=(⟨new,b.pts⟩:BodyL)) hb (by decide) rfl (fun cs b t x=>x.tch t (by decide)) (fun cs ⟨A,n,c,h0,h1,h2⟩=>⟨A,n,c,by rw [h0];rfl,h1,ad.out⟩)
 have R:F.heap.size≠a:=fun e=>by
  obtain ⟨_,xs,ho,_⟩:=f.out;exact ho.neb G (by decide) (by rw [e];rfl)
 have I:w.heap.size+1+1≠a:=fun e=>by
  obtain ⟨_,xs,ho,_⟩:=f.out;exact ho.neb J (by decide) (by rw [e];rfl)
 have x5:Blk (H.setCell ⟨a,i*2,none⟩ (aa new)) F.heap.size 26 #[aa L.name,.slice (some ⟨a,0,none⟩) n c2,.slice s p2 d2,.slice z B f2]:=G.far (p:=⟨a,i*2+0,none⟩) R (aa new);have Z:Blk (H.setCell ⟨a,i*2,none⟩ (aa new)) (w.heap.size+1+1) 26 #[.string ⟨#[]⟩,.slice none 0 0,.slice none 0 0,.slice none 0 0]:=J.far (p:=⟨a,i*2+0,none⟩) I (aa new);have q5:Below w.heap.size w (H.setCell ⟨a,i*2,none⟩ (aa new)):=q4.setCell (p:=⟨a,i*2+0,none⟩) (by show w.heap.size<=a;omega) (aa new);have N:LkY 130 (H.setCell ⟨a,i*2,none⟩ (aa new)) (some ⟨a,0,none⟩) n c2 s p2 d2 z B f2 (kD L i b new):=nA s1 (V.out.tch s2 (by decide) (fun _ _ x=>x)) (U.out.tch s2 (by decide) (fun _ _ x=>x)) (show NmL L.name from by have:=(bI hL).ok.name;show L.name.length<_;omega);have y:=Qh N;have c0:=G.cell 0;have c1:=G.cell 1;have S:=G.cell 2;have c3:=G.cell 3;have a6:((i:Int)<0)=False:=by simp
 have a4:((i:Int)<(n:Int)):=by omega
 have HC:=Qh hc;clear hi hb hc s1 s2 N b0 b1 b2 b3 f0 f1 T f3;go_wp2_with fail;clear c0 c1 S c3 k1 k2 G J q4 f V U;generalize (H.setCell ⟨a,i*2,none⟩ (aa new))=w5 at x5 Z q5 y ⊢;have P:Calls Tryz.prog 31 #[.agg #[aa L.name,.slice (some ⟨a,0,none⟩) n c2,.slice s p2 d2,.slice z B f2]] w5 (ax w5 (bo (aG (kD L i b new)))):=dJ w5 (some ⟨a,0,none⟩) n c2 s p2 d2 z B f2 (kD L i b new) 130 y.out.out (by decide) (by decide) _ rfl;refine P.mono ?_;rintro e' w6 ⟨rfl,r⟩;clear P;have x6:=x5.below r x5.lt;have z6:=Z.below r Z.lt;have q6:=q5.trans (r.mono q5.size);have ab:=Qh (y.out.blw r);obtain ⟨b0,b1,b2,b3⟩:=z6.c4;obtain ⟨f0,f1,T,f3⟩:=z6.f4;obtain ⟨c0,c1,S,c3⟩:=x6.c4;have aC:=x6.lt;have ao:¬ F.heap.size=w.heap.size+1+1:=by omega
 clear x5 Z q5 y r;rcases HC.out with ⟨M,rfl,rfl⟩ | ⟨M,rfl,rfl⟩
 ·rw [eVp M]
  have HX:=Qh M;clear M;go_wp2_with fail;refine bodyPost_ret (v:=.tuple #[.agg #[.string ⟨#[]⟩,.slice none 0 0,.slice none 0 0,.slice none 0 0],.iface 58 (.int .i64 (aG (kD L i b new)))]) (by simp [results,Tryz.results36,go_sem, *] <;> trivial) rfl ?_;rw [eVp HX.out];exact ⟨_,_,_,_,_,_,_,_,_,rfl,LkY.zero _ _,cO q6 (by omega) _ _ _ _⟩
 rw [M,aO];go_wp2_with fail;have t6:=lm z6 ⟨rfl,rfl,rfl,rfl⟩ (aa L.name) (.slice (some ⟨a,0,none⟩) n c2) (.slice s p2 d2) (.slice z B f2);refine bodyPost_ret (v:=.tuple #[.agg #[aa L.name,.slice (some ⟨a,0,none⟩) n c2,.slice s p2 d2,.slice z B f2],.nilIface]) (by simp [results,Tryz.results36,go_sem, *] <;> trivial) rfl ?_;exact ⟨_,_,_,_,_,_,_,_,_,rfl,ab.out.tch t6 (by decide) (by decide) (by decide) (by decide),cO q6 (by omega) _ _ _ _⟩
def er {α:Type}(f:α->α) (l:List α) (i:Nat):List α:=(l.take i).map f++l.drop i
section
variable {α:Type}{f:α->α}{l:List α}{i:Nat}{a:α}
theorem CH:er f l 0=l:=by simp [er]
theorem uW (h:l.length<=i):er f l i=l.map f:=by unfold er;rw [List.take_of_length_le h,List.drop_eq_nil_of_le h,List.append_nil]
theorem iu (h:l[i]?=some a):(er f l i)[i]?=some a:=by
 have b:i<l.length:=(List.getElem?_eq_some_iff.1 h).1;unfold er;rw [List.getElem?_append_right (by simp;omega)];simp [List.length_take,Nat.min_eq_left (Nat.le_of_lt b),h]
theorem kE (h:l[i]?=some a):(er f l i).set i (f a)=er f l (i+1):=by
 obtain ⟨b,d⟩:=List.getElem?_eq_some_iff.1 h;have hd:l.drop i=a::l.drop (i+1):=by rw [List.drop_eq_getElem_cons b,d]
 have c:l.take (i+1)=l.take i++[a]:=by rw [List.take_add_one,h];rfl
 unfold er;rw [hd,c,List.set_append_right _ _ (by simp;omega)];simp [List.length_take,Nat.min_eq_left (Nat.le_of_lt b)]
theorem An (h:l[i]?=some a) (b:f a=a):er f l i=er f l (i+1):=by
 have k:=kE (f:=f) h;rw [b] at k;rw [<- k]
 exact (List.ext_getElem? fun j=>by
  rw [List.getElem?_set];by_cases hj:i=j
  ·subst hj
   rw [if_pos rfl,iu h];have d:i<l.length:=(List.getElem?_eq_some_iff.1 h).1;have c:i<(er f l i).length:=by unfold er;simp;omega
   simp [c]
  rw [if_neg hj])
theorem lZ {n:Nat}(h:(er f l i).length=n):l.length=n:=by
 unfold er at h;simp only [List.length_append,List.length_map,List.length_take,List.length_drop] at h;omega
end
def shI (k:Nat) (x:Int):Int:=if (k:Int)<x then x-1 else x
def shJ (k:Nat) (j:aD):aD:=⟨j.name,j.kind,shI k j.a,j.point,shI k j.b,j.on,j.to_⟩
def shD (k:Nat) (d:aE):aE:=⟨d.name,shI k d.body⟩
def Cl (L:ag) (k:Nat):ag:=⟨L.name,L.bodies.eraseIdx k,L.joints.map (shJ k),L.drivers.map (shD k)⟩
def qp (L:ag) (nm:List UInt8) (x:Int) (L':ag):Prop:=(gG (L.bodies.map BodyL.name) nm=-1/\x=5/\L'=L0)\/(gG (L.bodies.map BodyL.name) nm=(0:Nat)/\x=7/\L'=L0)\/∃ k:Nat,0<k/\k<L.bodies.length/\gG (L.bodies.map BodyL.name) nm=(k:Nat) /\
  (((∃ j∈L.joints,j.a=k\/j.b=k)/\x=11/\L'=L0)\/((∀ j∈L.joints,j.a≠k/\j.b≠k)/\(((∃ d∈L.drivers,d.body=k)/\x=11/\L'=L0)\/((∀ d∈L.drivers,d.body≠k)/\x=0/\L'=Cl L k))))
theorem Ec (L:ag) (nm:List UInt8):∃ x L',qp L nm x L':=by
 rcases idxN_cases (L.bodies.map BodyL.name) nm with h | ⟨k,h,m⟩
 ·exact ⟨5,L0,.inl ⟨h,rfl,rfl⟩⟩
 have g:k<L.bodies.length:=by have:=(List.getElem?_eq_some_iff.1 m).1;simpa using this
 rcases Nat.eq_zero_or_pos k with e | e
 ·subst e;exact ⟨7,L0,.inr (.inl ⟨h,rfl,rfl⟩)⟩
 by_cases i:∃ j∈L.joints,j.a=k\/j.b=k
 ·exact ⟨11,L0,.inr (.inr ⟨k,e,g,h,.inl ⟨i,rfl,rfl⟩⟩)⟩
 have c:∀ j∈L.joints,j.a≠k/\j.b≠k:=fun j l=>⟨fun f=>i ⟨j,l,.inl f⟩,fun f=>i ⟨j,l,.inr f⟩⟩
 by_cases h2:∃ d∈L.drivers,d.body=k
 ·exact ⟨11,L0,.inr (.inr ⟨k,e,g,h,.inr ⟨c,.inl ⟨h2,rfl,rfl⟩⟩⟩)⟩
 exact ⟨0,_,.inr (.inr ⟨k,e,g,h,.inr ⟨c,.inr ⟨fun d hd f=>h2 ⟨d,hd,f⟩,rfl,rfl⟩⟩⟩)⟩
def Ao (B:Nat) (w:World) (v:Value) (L:ag) (e:Ending) (w':World):Prop:=∃ A n c C p d D q f,e=.returned (.tuple #[.agg #[aa L.name,.slice A n c,.slice C p d,.slice D q f],v])/\LkY 130 w' A n c C p d D q f L/\Below B w w'
theorem BdC.ones {k:Nat}{w:World}{cs:List Value}{a:BodyL}(h:BdC k w cs a):∀ u∈cs,u.oneCell'=true:=by
 obtain ⟨A,n,c,d,_⟩:=h;subst d;intro u b;simp at b;rcases b with rfl | rfl <;> simp [Value.oneCell']
theorem set_at {α:Type}{l:List α}{i:Nat}{a b:α}(h:l[i]?=some a):(l.set i b)[i]?=some b:=List.getElem?_set_self (List.getElem?_eq_some_iff.1 h).1
structure RwX {α:Type}(T0:TypeId) (Pc:World->List Value->α->Prop) (s:Nat) (w:World) (B g n c:Nat) (l:List α) (w':World):Prop where
  row:aq T0 Pc s w' B (.slice (some ⟨g,0,none⟩) n c) n l
  tch:Tch (bi T0) w w'
  bel:Below B w w'
section
variable {α:Type}{T0:TypeId}{Pc:World->List Value->α->Prop}{s:Nat}{w wi w':World}{B g n c:Nat}{l:List α}
theorem RwX.refl (h:aq T0 Pc s wi B (.slice (some ⟨g,0,none⟩) n c) n l):RwX T0 Pc s wi B g n c l wi:=⟨h,Tch.refl _,Below.refl _ _⟩
theorem RwX.set {i j:Nat}{a a':α}{u:Value}(h:RwX T0 Pc s wi B g n c l w') (o:l[i]?=some a) (d:j<s) (m:noW u=true) (f:∀ w w' cs b,Pc w cs b->Pc w' cs b) (k:∀ w cs,Pc w cs a->Pc w (cs.set j u) a'):RwX T0 Pc s wi B g n c (l.set i a') (w'.setCell ⟨g,i*s+j,none⟩ u):=by
 obtain ⟨r,t,hB,_⟩:=h.row.set (a':=a') o d m (fun cs b _ y=>f _ _ cs b y) (fun cs y=>k _ cs y);exact ⟨r,h.tch.trans t,h.bel.setCell (p:=⟨g,i*s+j,none⟩) hB u⟩
theorem RwX.fin {β:Type}{T2:TypeId}{d:World->List Value->β->Prop}{k:Nat}{j v2:Value}{nb r x z:Nat}{p:List BodyL}{l2:List β}{h f:Array Value} [gK Pc] [gK d] (R:RwX T0 Pc s wi B g n c l w') (m:bi T0 51=false/\bi T0 56=false) (u:bi T0 T2=false) (o:bi T0 26=false) (bd:aq 51 (BdC 130) 2 wi B j nb p) (v:aq T2 d k wi B v2 r l2) (A:∀ w w' cs b,d w cs b->d w' cs b)
 (X:Blk wi x 26 h) (Z:Blk wi z 26 f) (q:Below B w wi) (hB:B<=w.heap.size) (cs:Array Value) :
 aq T0 Pc s (w'.alloc (.cells cs T0)) B (.slice (some ⟨g,0,none⟩) n c) n l/\aq 51 (BdC 130) 2 (w'.alloc (.cells cs T0)) B j nb p/\aq T2 d k (w'.alloc (.cells cs T0)) B v2 r l2/\Blk (w'.alloc (.cells cs T0)) x 26 h/\Blk (w'.alloc (.cells cs T0)) z 26 f/\Below B w (w'.alloc (.cells cs T0)):=by
 have a:Below w'.heap.size w' (w'.alloc (.cells cs T0)):=(ae _).alloc Qr _;have t:Blk w' x 26 h:=R.tch.2 _ _ _ _ X (.inl o);have i:Blk w' z 26 f:=R.tch.2 _ _ _ _ Z (.inl o);have q2:=q.trans R.bel;exact ⟨R.row.blw a,(bd.tch R.tch m.1 (fun _ _ y=>y.tch R.tch m.2)).blw a,(v.tch R.tch u (fun _ _ y=>A _ _ _ _ y)).blw a,t.below a t.lt,i.below a i.lt,q2.trans (a.mono (Nat.le_trans hB q2.size))⟩
end
theorem kF {x:Int}{k n:Nat}(h:(k:Int)<x) (a:x<n) (b:n<=1000):wrap64 (x-1)=x-1:=by unfold wrap64;omega
theorem Aq (w:World) (B:Nat) (hB:B<=w.heap.size) (A:Option Addr) (n c:Nat) (C:Option Addr) (p d:Nat) (D:Option Addr) (q e:Nat) (L:ag) (h:CpO B w A n c C p d D q e L) (hL:aG L=0) (nm:List UInt8) (x:Int) (L':ag) (hR:qp L nm x L'):Calls Tryz.prog 44 #[.agg #[aa L.name,.slice A n c,.slice C p d,.slice D q e],aa nm] w (Ao B w (bo x) L'):=by
 have x0:Blk (((w.alloc (.cells #[aa L.name,.slice A n c,.slice C p d,.slice D q e] 26)).alloc (.cells #[aa nm] 9)).alloc (.cells #[.string ⟨#[]⟩,.slice none 0 0,.slice none 0 0,.slice none 0 0] 26)) w.heap.size 26 #[aa L.name,.slice A n c,.slice C p d,.slice D q e]:=((Blk.new _ _ _).alloc _).alloc _;have y0:Blk (((w.alloc (.cells #[aa L.name,.slice A n c,.slice C p d,.slice D q e] 26)).alloc (.cells #[aa nm] 9)).alloc (.cells #[.string ⟨#[]⟩,.slice none 0 0,.slice none 0 0,.slice none 0 0] 26)) (w.heap.size+1) 9 #[aa nm]:=(ak _ _ _ (by simp)).alloc _;have z0:Blk (((w.alloc (.cells #[aa L.name,.slice A n c,.slice C p d,.slice D q e] 26)).alloc (.cells #[aa nm] 9)).alloc (.cells #[.string ⟨#[]⟩,.slice none 0 0,.slice none 0 0,.slice none 0 0] 26)) (w.heap.size+1+1) 26 #[.string ⟨#[]⟩,.slice none 0 0,.slice none 0 0,.slice none 0 0]:=ak _ _ _ (by simp);have q0:=(((ae w).alloc Qr (.cells #[aa L.name,.slice A n c,.slice C p d,.slice D q e] 26)).alloc (by simp) (.cells #[aa nm] 9)).alloc (by simp;omega) (.cells #[.string ⟨#[]⟩,.slice none 0 0,.slice none 0 0,.slice none 0 0] 26);have hF:=bI hL;have cp:n<=8:=by rw [<- h.bd.1];exact hF.ok.nb
 have b6:p<=16:=by rw [<- h.jt.1];exact hF.ok.nj
 have cm:q<=2:=by rw [<- h.dr.1];exact hF.ok.nd
 have ca:L.bodies.length=n:=h.bd.1;have HF:=Qh hF;have BD:=Qh (h.bd.row.blw q0);have JT:=Qh (h.jt.blw q0);have DR:=Qh (h.dr.blw q0);have HR:=Qh hR;have bz:=Qh (show NmL L.name from by have:=hF.ok.name;show L.name.length<_;omega);have q0:=q0.mono hB;clear h hR hF hL;go_in;go_wp2_with fail;generalize (((w.alloc (.cells #[aa L.name,.slice A n c,.slice C p d,.slice D q e] 26)).alloc (.cells #[aa nm] 9)).alloc (.cells #[.string ⟨#[]⟩,.slice none 0 0,.slice none 0 0,.slice none 0 0] 26))=w0 at x0 y0 z0 q0 BD JT DR ⊢;refine (zR w0 A n c L.bodies BD.out.bds (by omega) (w.heap.size+1) nm (show w0.cell? ⟨w.heap.size+1,0,none⟩=some (aa nm) from by simpa using y0.cell 0)).mono ?_;rintro e' w1 ⟨rfl,S⟩;have a5:=Qh (BD.out.blw S);have bf:=Qh (JT.out.blw S);have a6:=Qh (DR.out.blw S);have x1:=x0.below S x0.lt;have z1:=z0.below S z0.lt;have q1:=q0.trans (S.mono (Nat.le_trans hB q0.size));clear BD JT DR y0 x0 z0 q0 S;obtain ⟨b0,b1,b2,b3⟩:=z1.c4;obtain ⟨f0,f1,ab,f3⟩:=z1.f4;rcases HR.out with ⟨hi,rfl,rfl⟩ | ⟨hi,rfl,rfl⟩ | ⟨k,cc,b8,hi,hc⟩
 ·rw [hi]
  go_wp2_with fail;refine bodyPost_ret (v:=.tuple #[.agg #[.string ⟨#[]⟩,.slice none 0 0,.slice none 0 0,.slice none 0 0],.iface 58 (.int .i64 5)]) (by simp [results,Tryz.results44,go_sem, *] <;> trivial) rfl ?_;rw [eVp (show (5:Int)≠0 by decide)];exact ⟨_,_,_,_,_,_,_,_,_,rfl,LkY.zero _ _,cO q1 (by omega) _ _ _ _⟩
 ·rw [hi]
  go_wp2_with fail;refine bodyPost_ret (v:=.tuple #[.agg #[.string ⟨#[]⟩,.slice none 0 0,.slice none 0 0,.slice none 0 0],.iface 58 (.int .i64 7)]) (by simp [results,Tryz.results44,go_sem, *] <;> trivial) rfl ?_;rw [eVp (show (7:Int)≠0 by decide)];exact ⟨_,_,_,_,_,_,_,_,_,rfl,LkY.zero _ _,cO q1 (by omega) _ _ _ _⟩
 rw [hi];have HC:=Qh hc;have X1:=Qh x1;have Z1:=Qh z1;have cv:((k:Int)<0)=False:=by simp
 have cb:((k:Int)=0)=False:=by simp;omega
 have cu:((k:Int)==0)=false:=by simp;omega
 obtain ⟨a0,a1,a2,a3⟩:=x1.c4;clear x1 z1 hi hc HR b0 b1 b2 b3 f0 f1 ab f3;go_wp2_with fail;clear a0 a1 a2 a3;go_loopw [28] (fun iv wr=>∃ i:Nat,iv=.int .i64 (i:Nat)/\i<=p/\Hid (∀ j,j<i->∀ a,L.joints[j]?=some a->a.a≠k/\a.b≠k)/\Hid (aq 51 (BdC 130) 2 wr B (.slice A n c) n L.bodies)/\Hid (aq 81 JtC 7 wr B (.slice C p d) p (er (shJ k) L.joints i))/\Hid (aq 86 DrC 2 wr B (.slice D q e) q L.drivers)/\Hid (Blk wr w.heap.size 26 #[aa L.name,.slice A n c,.slice C p d,.slice D q e])/\Hid (Blk wr (w.heap.size+1+1) 26 #[.string ⟨#[]⟩,.slice none 0 0,.slice none 0 0,.slice none 0 0])/\Below B w wr) (fun iv _=>p-(intOf iv).toNat)
 case atStart=>exact ⟨0,rfl,Nat.zero_le _,Qh fun j T=>absurd T (Nat.not_lt_zero _),a5,(by rw [CH];exact bf),a6,X1,Z1,q1⟩
 case round =>
  obtain ⟨i,rfl,hi,NO,M,F,G,U,V,qi⟩:=hrel;rename World=>wi;rcases Nat.lt_or_ge i p with bv | b4
  ·have ad:((i:Int)<(p:Int))=True:=by simp;omega
   have b5:((i:Int)<(p:Int)):=by omega
   have aS:i<L.joints.length:=by have:=lZ F.out.1;omega
   obtain ⟨a,ha⟩:∃ a,L.joints[i]?=some a:=⟨_,List.getElem?_eq_getElem aS⟩;have K:=Qh ha;obtain ⟨o,cs,rfl,an,m⟩:=F.out.at_ (iu ha);obtain ⟨rfl,bu⟩:=an;have d0:wi.cell? ⟨o,i*7,none⟩=some (aa a.name):=m 0 _ rfl;have d1:wi.cell? ⟨o,i*7+1,none⟩=some (.int .i64 a.kind):=m 1 _ rfl;have d2:wi.cell? ⟨o,i*7+2,none⟩=some (.int .i64 a.a):=m 2 _ rfl;have d3:wi.cell? ⟨o,i*7+3,none⟩=some (.int .i64 a.point):=m 3 _ rfl;have d4:wi.cell? ⟨o,i*7+4,none⟩=some (.int .i64 a.b):=m 4 _ rfl;have d5:wi.cell? ⟨o,i*7+5,none⟩=some (.int .i64 a.on):=m 5 _ rfl;have d6:wi.cell? ⟨o,i*7+6,none⟩=some (.int .i64 a.to_):=m 6 _ rfl
   obtain ⟨la,lb⟩:a.a<(n:Int)/\a.b<(n:Int):=by
    obtain ⟨ja,jb,_,_,_,_,_,_,ea,eb,_,_,aC,bx,_⟩:=(HF.out.ok.joint a (List.mem_of_getElem? ha)).2;have Q:=(List.getElem?_eq_some_iff.1 aC).1;have h2:=(List.getElem?_eq_some_iff.1 bx).1;omega
   obtain ⟨k1,_⟩:=F.out.cell (j:=2) (i:=i) (by omega) (by decide);obtain ⟨k2,_⟩:=F.out.cell (j:=4) (i:=i) (by omega) (by decide);have hg:o<wi.heap.size:=World.block_lt_of_cell? wi _ d0;have bn:¬ o=wi.heap.size:=by omega
   have hx:=U.out.lt;have bl:¬ w.heap.size=wi.heap.size:=by omega
   have hz:=V.out.lt;have bk:¬ w.heap.size+1+1=wi.heap.size:=by omega
   have X:¬ o=w.heap.size:=fun e=>F.out.neb U.out (by decide) (by rw [<- e];rfl)
   have a9:¬ w.heap.size=o:=fun e=>X e.symm
   obtain ⟨a0,a1,a2,a3⟩:=U.out.c4;obtain ⟨b0,b1,b2,b3⟩:=V.out.c4;obtain ⟨f0,f1,ab,f3⟩:=V.out.f4;clear m ha;by_cases g:a.a=(k:Int)
   ·have u1:(a.a=(k:Int))=True:=eq_true g
    have v1:(a.a==(k:Int))=true:=by simpa using g
    have Z:=Qh (show x=11/\L'=L0 from by
     rcases HC.out with ⟨_,e1,e2⟩ | ⟨Q,_⟩
     ·exact ⟨e1,e2⟩
     exact absurd (Q a (List.mem_of_getElem? K.out)) (by intro hh;exact hh.1 g))
    have HX:=Qh (And.intro g g);clear g;go_wp2_with fail;refine bodyPost_ret (v:=.tuple #[.agg #[.string ⟨#[]⟩,.slice none 0 0,.slice none 0 0,.slice none 0 0],.iface 58 (.int .i64 11)]) (by simp [results,Tryz.results44,go_sem, *] <;> trivial) rfl ?_;rw [Z.out.1,Z.out.2,eVp (show (11:Int)≠0 by decide)];exact ⟨_,_,_,_,_,_,_,_,_,rfl,LkY.zero _ _,(cO qi (by omega) _ _ _ _).alloc (by simp;omega) _⟩
   have E:a.a≠(k:Int):=g;by_cases s:a.b=(k:Int)
   ·have u1:(a.a=(k:Int))=False:=eq_false E
    have v1:(a.a==(k:Int))=false:=by simpa using E
    have u2:(a.b=(k:Int))=True:=eq_true s;have v2:(a.b==(k:Int))=true:=by simpa using s
    have Z:=Qh (show x=11/\L'=L0 from by
     rcases HC.out with ⟨_,e1,e2⟩ | ⟨Q,_⟩
     ·exact ⟨e1,e2⟩
     exact absurd (Q a (List.mem_of_getElem? K.out)) (by intro hh;exact hh.2 s))
    clear s;go_wp2_with fail;refine bodyPost_ret (v:=.tuple #[.agg #[.string ⟨#[]⟩,.slice none 0 0,.slice none 0 0,.slice none 0 0],.iface 58 (.int .i64 11)]) (by simp [results,Tryz.results44,go_sem, *] <;> trivial) rfl ?_;rw [Z.out.1,Z.out.2,eVp (show (11:Int)≠0 by decide)];exact ⟨_,_,_,_,_,_,_,_,_,rfl,LkY.zero _ _,(cO qi (by omega) _ _ _ _).alloc (by simp;omega) _⟩
   have J:a.b≠(k:Int):=s;clear g s;have O:=Qh fun j T b hb=>(Nat.eq_or_lt_of_le (Nat.le_of_lt_succ T)).elim (fun e=>by subst e;rw [K.out] at hb;injection hb with hb;rw [<- hb];exact ⟨E,J⟩) (fun e=>NO.out j e b hb)
   have P:∀ {w':World},RwX 81 JtC 7 wi B o p d (er (shJ k) L.joints (i+1)) w'->_:=fun {w'} R=>by
    obtain ⟨f1,f2,f3,f4,f5,f6⟩:=R.fin (w:=w) (by decide) (by decide) (by decide) M.out G.out (fun _ _ _ _ y=>y) U.out V.out qi hB (#[aa a.name,.int .i64 a.kind,.int .i64 a.a,.int .i64 a.point,.int .i64 a.b,.int .i64 a.on,.int .i64 a.to_]);exact And.intro (Qh f2) (And.intro (Qh f1) (And.intro (Qh f3) (And.intro (Qh f4) (And.intro (Qh f5) f6))))
   by_cases g:(k:Int)<a.a
   ·by_cases s:(k:Int)<a.b
    ·have u1:(a.a=(k:Int))=False:=eq_false E
     have v1:(a.a==(k:Int))=false:=by simpa using E
     have s1:((k:Int)<a.a)=True:=eq_true g;have t1:wrap64 (a.a-1)=a.a-1:=kF g la (by omega);have z:shI k a.a=a.a-1:=if_pos g;have u2:(a.b=(k:Int))=False:=eq_false J;have v2:(a.b==(k:Int))=false:=by simpa using J
     have s2:((k:Int)<a.b)=True:=eq_true s;have t2:wrap64 (a.b-1)=a.b-1:=kF s lb (by omega);have I:shI k a.b=a.b-1:=if_pos s;have H:shJ k a=⟨a.name,a.kind,a.a-1,a.point,a.b-1,a.on,a.to_⟩:=by unfold shJ;rw [z,I]
     have R:RwX 81 JtC 7 wi B o p d (er (shJ k) L.joints (i+1)) ((wi.setCell ⟨o,i*7+2,none⟩ (.int .i64 (a.a-1))).setCell ⟨o,i*7+4,none⟩ (.int .i64 (a.b-1))):=by have r:=((RwX.refl F.out).set (i:=i) (j:=2) (u:=.int .i64 (a.a-1)) (a':=⟨a.name,a.kind,a.a-1,a.point,a.b,a.on,a.to_⟩) (iu K.out) (by decide) rfl (fun _ _ _ _ y=>y) (fun _ cs ⟨y,y2⟩=>⟨by rw [y];rfl,y2⟩)).set (i:=i) (j:=4) (u:=.int .i64 (a.b-1)) (a':=⟨a.name,a.kind,a.a-1,a.point,a.b-1,a.on,a.to_⟩) (set_at (iu K.out)) (by decide) rfl (fun _ _ _ _ y=>y) (fun _ cs ⟨y,y2⟩=>⟨by rw [y];rfl,y2⟩);rw [List.set_set] at r;rw [<- kE K.out,H];exact r
     go_wp2_with fail;go_roundw
     case rel=>exact ⟨i+1,by go_num,by omega,O,P R⟩
     case measure=>simp [intOf];omega
    have u1:(a.a=(k:Int))=False:=eq_false E;have v1:(a.a==(k:Int))=false:=by simpa using E
    have s1:((k:Int)<a.a)=True:=eq_true g;have t1:wrap64 (a.a-1)=a.a-1:=kF g la (by omega);have z:shI k a.a=a.a-1:=if_pos g;have u2:(a.b=(k:Int))=False:=eq_false J;have v2:(a.b==(k:Int))=false:=by simpa using J
    have s2:((k:Int)<a.b)=False:=eq_false s;have I:shI k a.b=a.b:=if_neg s;have H:shJ k a=⟨a.name,a.kind,a.a-1,a.point,a.b,a.on,a.to_⟩:=by unfold shJ;rw [z,I]
    have R:RwX 81 JtC 7 wi B o p d (er (shJ k) L.joints (i+1)) (wi.setCell ⟨o,i*7+2,none⟩ (.int .i64 (a.a-1))):=by have r:=(RwX.refl F.out).set (i:=i) (j:=2) (u:=.int .i64 (a.a-1)) (a':=⟨a.name,a.kind,a.a-1,a.point,a.b,a.on,a.to_⟩) (iu K.out) (by decide) rfl (fun _ _ _ _ y=>y) (fun _ cs ⟨y,y2⟩=>⟨by rw [y];rfl,y2⟩);rw [<- kE K.out,H];exact r
    go_wp2_with fail;go_roundw
    case rel=>exact ⟨i+1,by go_num,by omega,O,P R⟩
    case measure=>simp [intOf];omega
   by_cases s:(k:Int)<a.b
   ·have u1:(a.a=(k:Int))=False:=eq_false E
    have v1:(a.a==(k:Int))=false:=by simpa using E
    have s1:((k:Int)<a.a)=False:=eq_false g;have z:shI k a.a=a.a:=if_neg g;have u2:(a.b=(k:Int))=False:=eq_false J;have v2:(a.b==(k:Int))=false:=by simpa using J
    have s2:((k:Int)<a.b)=True:=eq_true s;have t2:wrap64 (a.b-1)=a.b-1:=kF s lb (by omega);have I:shI k a.b=a.b-1:=if_pos s;have H:shJ k a=⟨a.name,a.kind,a.a,a.point,a.b-1,a.on,a.to_⟩:=by unfold shJ;rw [z,I]
    have R:RwX 81 JtC 7 wi B o p d (er (shJ k) L.joints (i+1)) (wi.setCell ⟨o,i*7+4,none⟩ (.int .i64 (a.b-1))):=by have r:=(RwX.refl F.out).set (i:=i) (j:=4) (u:=.int .i64 (a.b-1)) (a':=⟨a.name,a.kind,a.a,a.point,a.b-1,a.on,a.to_⟩) (iu K.out) (by decide) rfl (fun _ _ _ _ y=>y) (fun _ cs ⟨y,y2⟩=>⟨by rw [y];rfl,y2⟩);rw [<- kE K.out,H];exact r
    go_wp2_with fail;go_roundw
    case rel=>exact ⟨i+1,by go_num,by omega,O,P R⟩
    case measure=>simp [intOf];omega
   have u1:(a.a=(k:Int))=False:=eq_false E;have v1:(a.a==(k:Int))=false:=by simpa using E
   have s1:((k:Int)<a.a)=False:=eq_false g;have z:shI k a.a=a.a:=if_neg g;have u2:(a.b=(k:Int))=False:=eq_false J;have v2:(a.b==(k:Int))=false:=by simpa using J
   have s2:((k:Int)<a.b)=False:=eq_false s;have I:shI k a.b=a.b:=if_neg s;have H:shJ k a=⟨a.name,a.kind,a.a,a.point,a.b,a.on,a.to_⟩:=by unfold shJ;rw [z,I]
   have al:shJ k a=a:=H;have R:RwX 81 JtC 7 wi B o p d (er (shJ k) L.joints (i+1)) wi:=by rw [<- An K.out al];exact RwX.refl F.out
   go_wp2_with fail;go_roundw
   case rel=>exact ⟨i+1,by go_num,by omega,O,P R⟩
   case measure=>simp [intOf];omega
  have ad:((i:Int)<(p:Int))=False:=by simp;omega
  obtain rfl:p=i:=by omega
  have a4:=M;have ao:=Qh (show aq 81 JtC 7 wi B (.slice C p d) p (L.joints.map (shJ k)) from by rw [<- uW (f:=shJ k) (i:=p) (l:=L.joints) (by have:=lZ F.out.1;omega)];exact F.out);have bb:=G;have X4:=U;have Z4:=V;have q4:=qi
  have NJ:=Qh (show ∀ j∈L.joints,j.a≠k/\j.b≠k from fun j T=>by
   obtain ⟨t,ht⟩:=List.mem_iff_getElem?.1 T
   exact NO.out t (by have Q:=(List.getElem?_eq_some_iff.1 ht).1;have:=ao.out.1;rw [List.length_map] at this;omega) j ht)
  clear M F G U V qi NO a5 bf a6 X1 Z1 q1;obtain ⟨a0,a1,a2,a3⟩:=X4.out.c4;go_wp2_with fail;clear a0 a1 a2 a3;go_loopw [75] (fun iv wr=>∃ i:Nat,iv=.int .i64 (i:Nat)/\i<=q/\Hid (∀ j,j<i->∀ a,L.drivers[j]?=some a->a.body≠k)/\Hid (aq 51 (BdC 130) 2 wr B (.slice A n c) n L.bodies)/\Hid (aq 81 JtC 7 wr B (.slice C p d) p (L.joints.map (shJ k)))/\Hid (aq 86 DrC 2 wr B (.slice D q e) q (er (shD k) L.drivers i))/\Hid (Blk wr w.heap.size 26 #[aa L.name,.slice A n c,.slice C p d,.slice D q e])/\Hid (Blk wr (w.heap.size+1+1) 26 #[.string ⟨#[]⟩,.slice none 0 0,.slice none 0 0,.slice none 0 0])/\Below B w wr) (fun iv _=>q-(intOf iv).toNat)
  case atStart=>exact ⟨0,rfl,Nat.zero_le _,Qh fun j T=>absurd T (Nat.not_lt_zero _),a4,ao,(by rw [CH];exact bb),X4,Z4,q4⟩
  case round =>
   obtain ⟨i,rfl,hi,NO,M,F,G,U,V,qi⟩:=hrel;rename World=>wi;rcases Nat.lt_or_ge i q with bv | b4
   ·have ad:((i:Int)<(q:Int))=True:=by simp;omega
    have b5:((i:Int)<(q:Int)):=by omega
    have aS:i<L.drivers.length:=by have:=lZ G.out.1;omega
    obtain ⟨a,ha⟩:∃ a,L.drivers[i]?=some a:=⟨_,List.getElem?_eq_getElem aS⟩;have K:=Qh ha;obtain ⟨o,cs,rfl,an,m⟩:=G.out.at_ (iu ha);obtain ⟨rfl,bu⟩:=an;have d0:wi.cell? ⟨o,i*2,none⟩=some (aa a.name):=m 0 _ rfl;have d1:wi.cell? ⟨o,i*2+1,none⟩=some (.int .i64 a.body):=m 1 _ rfl
    have la:a.body<(n:Int):=by
     obtain ⟨_,jb,_,ea,aC⟩:=HF.out.ok.driver a (List.mem_of_getElem? ha);have Q:=(List.getElem?_eq_some_iff.1 aC).1;omega
    obtain ⟨k1,_⟩:=G.out.cell (j:=1) (i:=i) (by omega) (by decide);have hg:o<wi.heap.size:=World.block_lt_of_cell? wi _ d0;have bn:¬ o=wi.heap.size:=by omega
    have hx:=U.out.lt;have bl:¬ w.heap.size=wi.heap.size:=by omega
    have hz:=V.out.lt;have bk:¬ w.heap.size+1+1=wi.heap.size:=by omega
    have X:¬ o=w.heap.size:=fun e=>G.out.neb U.out (by decide) (by rw [<- e];rfl)
    have a9:¬ w.heap.size=o:=fun e=>X e.symm
    obtain ⟨a0,a1,a2,a3⟩:=U.out.c4;obtain ⟨b0,b1,b2,b3⟩:=V.out.c4;obtain ⟨f0,f1,ab,f3⟩:=V.out.f4;clear m ha;by_cases g:a.body=(k:Int)
    ·have u1:(a.body=(k:Int))=True:=eq_true g
     have v1:(a.body==(k:Int))=true:=by simpa using g
     have Z:=Qh (show x=11/\L'=L0 from by
      rcases HC.out with ⟨_,e1,e2⟩ | ⟨_,⟨_,e1,e2⟩ | ⟨Q,_⟩⟩
      ·exact ⟨e1,e2⟩
      ·exact ⟨e1,e2⟩
      exact absurd (Q a (List.mem_of_getElem? K.out)) (by intro hh;exact hh g))
     clear g;go_wp2_with fail;refine bodyPost_ret (v:=.tuple #[.agg #[.string ⟨#[]⟩,.slice none 0 0,.slice none 0 0,.slice none 0 0],.iface 58 (.int .i64 11)]) (by simp [results,Tryz.results44,go_sem, *] <;> trivial) rfl ?_;rw [Z.out.1,Z.out.2,eVp (show (11:Int)≠0 by decide)];exact ⟨_,_,_,_,_,_,_,_,_,rfl,LkY.zero _ _,(cO qi (by omega) _ _ _ _).alloc (by simp;omega) _⟩
    have E:a.body≠(k:Int):=g;clear g;have O:=Qh fun j T b hb=>(Nat.eq_or_lt_of_le (Nat.le_of_lt_succ T)).elim (fun e=>by subst e;rw [K.out] at hb;injection hb with hb;rw [<- hb];exact E) (fun e=>NO.out j e b hb)
    have P:∀ {w':World},RwX 86 DrC 2 wi B o q e (er (shD k) L.drivers (i+1)) w'->_:=fun {w'} R=>by
     obtain ⟨f1,f2,f3,f4,f5,f6⟩:=R.fin (w:=w) (by decide) (by decide) (by decide) M.out F.out (fun _ _ _ _ y=>y) U.out V.out qi hB (#[aa a.name,.int .i64 a.body]);exact And.intro (Qh f2) (And.intro (Qh f3) (And.intro (Qh f1) (And.intro (Qh f4) (And.intro (Qh f5) f6))))
    by_cases g:(k:Int)<a.body
    ·have u1:(a.body=(k:Int))=False:=eq_false E
     have v1:(a.body==(k:Int))=false:=by simpa using E
     have s1:((k:Int)<a.body)=True:=eq_true g;have t1:wrap64 (a.body-1)=a.body-1:=kF g la (by omega);have z:shI k a.body=a.body-1:=if_pos g;have H:shD k a=⟨a.name,a.body-1⟩:=by unfold shD;rw [z]
     have R:RwX 86 DrC 2 wi B o q e (er (shD k) L.drivers (i+1)) (wi.setCell ⟨o,i*2+1,none⟩ (.int .i64 (a.body-1))):=by have r:=(RwX.refl G.out).set (i:=i) (j:=1) (u:=.int .i64 (a.body-1)) (a':=⟨a.name,a.body-1⟩) (iu K.out) (by decide) rfl (fun _ _ _ _ y=>y) (fun _ cs ⟨y,y2⟩=>⟨by rw [y];rfl,y2⟩);rw [<- kE K.out,H];exact r
     go_wp2_with fail;go_roundw
     case rel=>exact ⟨i+1,by go_num,by omega,O,P R⟩
     case measure=>simp [intOf];omega
    have u1:(a.body=(k:Int))=False:=eq_false E;have v1:(a.body==(k:Int))=false:=by simpa using E
    have s1:((k:Int)<a.body)=False:=eq_false g;have z:shI k a.body=a.body:=if_neg g;have H:shD k a=⟨a.name,a.body⟩:=by unfold shD;rw [z]
    have al:shD k a=a:=H;have R:RwX 86 DrC 2 wi B o q e (er (shD k) L.drivers (i+1)) wi:=by rw [<- An K.out al];exact RwX.refl G.out
    go_wp2_with fail;go_roundw
    case rel=>exact ⟨i+1,by go_num,by omega,O,P R⟩
    case measure=>simp [intOf];omega
   have ad:((i:Int)<(q:Int))=False:=by simp;omega
   obtain rfl:q=i:=by omega
   have b9:L.drivers.length=q:=lZ G.out.1;have N:=M;have ac:=F;have aT:=Qh (show aq 86 DrC 2 wi B (.slice D q e) q (L.drivers.map (shD k)) from by rw [<- uW (f:=shD k) (i:=q) (l:=L.drivers) (by omega)];exact G.out);have X5:=U;have Z5:=V;have q5:=qi
   have ND:=Qh (show ∀ j∈L.drivers,j.body≠k from fun j T=>by
    obtain ⟨t,ht⟩:=List.mem_iff_getElem?.1 T
    exact NO.out t (by have Q:=(List.getElem?_eq_some_iff.1 ht).1;omega) j ht)
   have Z:=Qh (show x=0/\L'=Cl L k from by
    rcases HC.out with ⟨⟨j,T,Q⟩,_⟩ | ⟨_,⟨⟨d,hd,Q⟩,_⟩ | ⟨_,e1,e2⟩⟩
    ·exact absurd Q (fun Q=>Q.elim (NJ.out j T).1 (NJ.out j T).2)
    ·exact absurd Q (ND.out d hd)
    exact ⟨e1,e2⟩)
   clear M F G U V qi NO a4 ao bb X4 Z4 q4;rename_i ck;have br:k<L.bodies.length:=by omega
   obtain ⟨o,rfl⟩:=N.out.some_ (List.getElem?_eq_getElem br);obtain ⟨a0,a1,a2,a3⟩:=X5.out.c4;go_wp2_with fail;clear a0 a1 a2 a3;refine (zN wi B o n c k L.bodies N.out (fun w cs a h=>h.ones) (by omega) (by omega) (fun w' cs a t h=>h.tch t (by decide))).mono ?_;rintro e' w6 ⟨rfl,bg,W⟩
   obtain ⟨b7,Y⟩:∃ cur,Blk wi o 51 cur:=by
    obtain ⟨_,xs,ho,_⟩:=N.out;obtain ⟨_,cur,hc,_⟩:=ho.at_ rfl;exact ⟨cur,hc⟩
   have ch:B<=o:=by
    obtain ⟨_,xs,ho,_⟩:=N.out;exact (ho.at_ rfl).1
   have x6:=X5.out.grw W (fun h=>N.out.neb X5.out (by decide) (by rw [h];rfl));have z6:=Z5.out.grw W (fun h=>N.out.neb Z5.out (by decide) (by rw [h];rfl));have a8:=ac.out.gr W (fun y hy h=>ac.out.neb Y (by decide) (by rw [hy,h])) (fun _ _ y=>y);have a7:=aT.out.gr W (fun y hy h=>aT.out.neb Y (by decide) (by rw [hy,h])) (fun _ _ y=>y);have q6:Below B w w6:=q5.grown W (Nat.le_trans hB q5.size) (fun y h=>by injection h with h;omega);have bs:=Qh (show LkY 130 w6 (some ⟨o,0,none⟩) (n-1) c C p d D q e (Cl L k) from nA bg a8 a7 bz.out);have bY:=x6.set_at 1 (.slice (some ⟨o,0,none⟩) (n-1) c) #[aa L.name,.slice (some ⟨o,0,none⟩) (n-1) c,.slice C p d,.slice D q e] rfl;have t7:Tch (bi 26) w6 (w6.setCell ⟨w.heap.size,1,none⟩ (.slice (some ⟨o,0,none⟩) (n-1) c)):=Tch.set x6 (by simp [bi]) rfl 1 _;have z7:Blk (w6.setCell ⟨w.heap.size,1,none⟩ (.slice (some ⟨o,0,none⟩) (n-1) c)) (w.heap.size+1+1) 26 #[.string ⟨#[]⟩,.slice none 0 0,.slice none 0 0,.slice none 0 0]:=z6.far (p:=⟨w.heap.size,1,none⟩) (by show w.heap.size+1+1≠w.heap.size;omega) _;have q7:Below B w (w6.setCell ⟨w.heap.size,1,none⟩ (.slice (some ⟨o,0,none⟩) (n-1) c)):=q6.setCell (p:=⟨w.heap.size,1,none⟩) hB _;have t8:=lm z7 ⟨rfl,rfl,rfl,rfl⟩ (aa L.name) (.slice (some ⟨o,0,none⟩) (n-1) c) (.slice C p d) (.slice D q e);have bw:=Qh (bs.out.tch (t7.trans t8) (by decide) (by decide) (by decide) (by decide));have q8:=Qh (cO q7 (show B<=w.heap.size+1+1 by omega) (aa L.name) (.slice (some ⟨o,0,none⟩) (n-1) c) (.slice C p d) (.slice D q e));obtain ⟨a0,a1,a2,a3⟩:=x6.c4;have g0:=x6.f4;obtain ⟨b0,b1,b2,b3⟩:=z6.c4;obtain ⟨f0,f1,ab,f3⟩:=z6.f4;have cr:=x6.lt;have cn:=z6.lt;clear N ac aT X5 Z5 q5 bg a8 a7 x6 z6 bY z7 q7 t7 t8 q6 W Y;go_wp2_with fail;refine bodyPost_ret (v:=.tuple #[.agg #[aa L.name,.slice (some ⟨o,0,none⟩) (n-1) c,.slice C p d,.slice D q e],.nilIface]) (by simp [results,Tryz.results44,go_sem, *] <;> trivial) rfl ?_;rw [Z.out.1,Z.out.2,aO];exact ⟨_,_,_,_,_,_,_,_,_,rfl,bw.out,q8.out⟩
theorem Fp (a b c:List UInt8):((⟨a.toArray⟩:ByteArray)++⟨b.toArray⟩++⟨c.toArray⟩).toList=a++b++c:=by
 have e:((⟨a.toArray⟩:ByteArray)++⟨b.toArray⟩++⟨c.toArray⟩)=⟨(a++b++c).toArray⟩:=by
  apply ByteArray.ext;simp [ByteArray.data_append]
 rw [e];exact aF _
def du (b:BodyL) (m:MarkL):List UInt8:=b.name++[46]++m.name
def kG (L:ag) (nm:List UInt8) (i j:Nat):Prop:=∃ b m,L.bodies[i]?=some b/\b.pts[j]?=some m/\du b m=nm
theorem tN {L:ag}(c:LkF L) {nm:List UInt8}{i j l k:Nat}(h:kG L nm i j) (o:kG L nm l k):i=l/\j=k:=by
 obtain ⟨b,m,hb,q,e⟩:=h;obtain ⟨n,s,a,d,f⟩:=o;have nb:=(uy (c.body b (List.mem_of_getElem? hb)).name).2.2.1;have g:=(uy (c.body n (List.mem_of_getElem? a)).name).2.2.1;unfold du at e f;rw [List.append_assoc] at e f;obtain ⟨r,p⟩:=mM nb g (e.trans f.symm);obtain rfl:=c.dist hb a r;rw [hb] at a;injection a with a;subst a;exact ⟨rfl,(c.body b (List.mem_of_getElem? hb)).dist q d p⟩
def sB (L:ag) (nm:List UInt8) (x:Int) (i j:Nat):Prop:=(x=0/\kG L nm i j)\/(x=5/\i=0/\j=0/\∀ i' j',¬ kG L nm i' j')
theorem Fq (L:ag) (nm:List UInt8):∃ x i j,sB L nm x i j:=by
 by_cases h:∃ i j,kG L nm i j
 ·obtain ⟨i,j,h⟩:=h;exact ⟨0,i,j,.inl ⟨rfl,h⟩⟩
 exact ⟨5,0,0,.inr ⟨rfl,rfl,rfl,fun i j k=>h ⟨i,j,k⟩⟩⟩
def Fr (w:World) (x:Int) (i j:Nat) (e:Ending) (w':World):Prop:=e=.returned (.tuple #[.int .i64 (i:Nat),.int .i64 (j:Nat),bo x])/\Below w.heap.size w w'
theorem Cm (w:World) (A:Option Addr) (n c:Nat) (C:Option Addr) (p d:Nat) (D:Option Addr) (q e:Nat) (L:ag) (h:LkS 130 w A n c C p d D q e L) (hL:aG L=0) (nm:List UInt8) (x:Int) (M K:Nat) (hO:sB L nm x M K):Calls Tryz.prog 77 #[.agg #[aa L.name,.slice A n c,.slice C p d,.slice D q e],aa nm] w (Fr w x M K):=by
 have x0:Blk (w.alloc (.cells #[aa L.name,.slice A n c,.slice C p d,.slice D q e] 26)) w.heap.size 26 #[aa L.name,.slice A n c,.slice C p d,.slice D q e]:=Blk.new _ _ _;have P:=(ae w).alloc Qr (.cells #[aa L.name,.slice A n c,.slice C p d,.slice D q e] 26);have hF:=bI hL;have bl:n<=8:=by rw [<- h.bodies.1];exact hF.ok.nb
 have HF:=Qh hF;have R:=Qh (h.belw P);have HO:=Qh hO;clear h hF hO;go_in;go_wp2_with fail;generalize (w.alloc (.cells #[aa L.name,.slice A n c,.slice C p d,.slice D q e] 26))=w0 at x0 P R ⊢;refine (dJ w0 A n c C p d D q e L 130 R.out (by decide) (by decide) 0 hL).mono ?_;rintro e' w1 ⟨rfl,y⟩;rw [aO];have x1:=x0.below y x0.lt;have H1:=Qh (R.out.belw y).bodies;have q1:=Qh (P.trans (y.mono P.size));obtain ⟨a0,a1,a2,a3⟩:=x1.c4;clear x0 P y R;go_wp2_with fail;clear a0 a1 a2 a3;go_loopw [20] (fun iv wr=>∃ i:Nat,iv=.int .i64 (i:Nat)/\i<=n/\Hid (∀ Q s,Q<i->¬ kG L nm Q s)/\Below w1.heap.size w1 wr) (fun iv _=>n-(intOf iv).toNat)
 case atStart=>exact ⟨0,rfl,Nat.zero_le _,Qh fun Q s hi=>absurd hi (Nat.not_lt_zero _),ae w1⟩
 case round =>
  obtain ⟨i,rfl,hi,NO,hb⟩:=hrel;rename World=>wa;rcases Nat.lt_or_ge i n with ad | bn
  ·have ac:((i:Int)<(n:Int))=True:=by simp;omega
   have bs:((i:Int)<(n:Int)):=by omega
   obtain ⟨g,o,b,u,hg,_,z,hB⟩:=(H1.out.bd hb).at_ ad;subst u;obtain ⟨V,l,T,c0,c1,hM,I⟩:=hB;have bw:l<=8:=by rw [<- hM.1];exact (HF.out.ok.body b (List.mem_of_getElem? z)).2.1
   have HM:=Qh hM;have U:=Qh z;have HN:=Qh I;have a8:¬ g=wa.heap.size:=by omega
   have qa:=(ae wa).alloc Qr (.cells #[aa b.name,.slice V l T] 51);have xa:Blk (wa.alloc (.cells #[aa b.name,.slice V l T] 51)) wa.heap.size 51 #[aa b.name,.slice V l T]:=Blk.new _ _ _;have k:=Qh qa;have B:=Qh xa;clear hM z I qa xa;go_wp2_with fail;generalize an:(wa.alloc (.cells #[aa b.name,.slice V l T] 51))=wb at k B ⊢;clear an c0 c1;have Z:=Qh (HM.out.mk_ k.out);go_loopw [28] (fun jv wr=>∃ j:Nat,jv=.int .i64 (j:Nat)/\j<=l/\Hid (∀ s,s<j->¬ kG L nm i s)/\Below wb.heap.size wb wr) (fun jv _=>l-(intOf jv).toNat)
   case atStart=>exact ⟨0,rfl,Nat.zero_le _,Qh fun s hj=>absurd hj (Nat.not_lt_zero _),ae wb⟩
   case round =>
    obtain ⟨j,rfl,hj,E,f⟩:=hrel;rename World=>wc;have qc:=(q1.out.trans (hb.mono q1.out.size)).trans ((k.out.trans (f.mono k.out.size)).mono (Nat.le_trans q1.out.size hb.size));rcases Nat.lt_or_ge j l with Y | bu
    ·have al:((j:Int)<(l:Int))=True:=by simp;omega
     have bv:((j:Int)<(l:Int)):=by omega
     obtain ⟨G,S,m,u,bg,_,J,aC⟩:=(Z.out.mk_ f).at_ Y;subst u;obtain ⟨d0,⟨b1,A1,n1,c1,D1,m1,u,d1,d2,d3,a4⟩,⟨b2,A2,n2,c2,D2,m2,N,d4,d5,d6,ab⟩,ao⟩:=aC;have d2:wc.cell? ⟨G,S+j*7+2,none⟩=some (.slice A1 n1 c1):=d2;have d3:wc.cell? ⟨G,S+j*7+3,none⟩=some (.slice D1 m1 u):=d3;have d5:wc.cell? ⟨G,S+j*7+5,none⟩=some (.slice A2 n2 c2):=d5;have d6:wc.cell? ⟨G,S+j*7+6,none⟩=some (.slice D2 m2 N):=d6;have a7:¬ G=wc.heap.size:=by omega
     have xc:=B.out.below f B.out.lt;have br:=xc.c2;have bf:=xc.lt;have a6:¬ wa.heap.size=wc.heap.size:=by omega
     have k1:(9223372036854775807<b.name.length+1)=False:=eq_false (by have:b.name.length<_:=HN.out;omega);have k2:(9223372036854775807<b.name.length+1+m.name.length)=False:=eq_false (by have:b.name.length<_:=HN.out;have:m.name.length<_:=ao;omega);have O:=Qh J;have bk:=aF b.name;have a9:=aF m.name;have bb:=aF nm;clear a4 ab J;by_cases r:du b m=nm
     ·have aS:(((⟨b.name.toArray⟩:ByteArray)++⟨#[46]⟩++⟨m.name.toArray⟩).toList==nm)=true:=by rw [show ((⟨b.name.toArray⟩:ByteArray)++⟨#[46]⟩++⟨m.name.toArray⟩).toList=_ from Fp b.name [46] m.name];simpa [du] using r
      have F:kG L nm i j:=⟨b,m,U.out,O.out,r⟩;have W:=Qh F;clear r F;go_wp2_with fail
      have hR:x=0/\i=M/\j=K:=by
       rcases HO.out with ⟨a,t⟩ | ⟨_,_,_,h4⟩
       ·obtain ⟨u,N⟩:=tN HF.out W.out t
        exact ⟨a,u,N⟩
       exact absurd W.out (h4 i j)
      refine bodyPost_ret (v:=.tuple #[.int .i64 (i:Nat),.int .i64 (j:Nat),.nilIface]) (by simp [results,Tryz.results77,go_sem, *] <;> trivial) rfl ?_;obtain ⟨u,N,e3⟩:=hR;rw [u,N,e3];exact ⟨by rw [aO],qc.alloc qc.size _⟩
     have aS:(((⟨b.name.toArray⟩:ByteArray)++⟨#[46]⟩++⟨m.name.toArray⟩).toList==nm)=false:=by rw [show ((⟨b.name.toArray⟩:ByteArray)++⟨#[46]⟩++⟨m.name.toArray⟩).toList=_ from Fp b.name [46] m.name];simpa [du] using r
     have W:=Qh r;clear r;go_wp2_with fail;go_roundw
     case rel =>
      refine ⟨j+1,by go_num,by omega,Qh fun s a5=>?_,f.alloc f.size _⟩;rcases Nat.eq_or_lt_of_le (Nat.le_of_lt_succ a5) with e | e
      ·subst e
       rintro ⟨b',m',a,t,H⟩;rw [U.out] at a;injection a with a;subst a;rw [O.out] at t;injection t with t;subst t;exact W.out H
      exact E.out s e
     case measure=>simp [intOf];omega
    have al:((j:Int)<(l:Int))=False:=by simp;omega
    obtain rfl:l=j:=by omega
    have aT:=k.out.trans (f.mono k.out.size);go_wp2_with fail;go_roundw
    case rel =>
     refine ⟨i+1,by go_num,by omega,Qh fun Q s X=>?_,hb.trans (aT.mono hb.size)⟩;rcases Nat.eq_or_lt_of_le (Nat.le_of_lt_succ X) with e | e
     ·subst e
      intro r;obtain ⟨b',m',a,t,H⟩:=r;rw [U.out] at a;injection a with a;subst a;exact E.out s (by have:=(List.getElem?_eq_some_iff.1 t).1;have:=HM.out.1;omega) ⟨b,m',U.out,t,H⟩
     exact NO.out Q s e
    case measure=>simp [intOf];omega
  have ac:((i:Int)<(n:Int))=False:=by simp;omega
  obtain rfl:n=i:=by omega
  have hR:x=5/\M=0/\K=0:=by
   rcases HO.out with ⟨_,r⟩ | ⟨a,t,H,_⟩
   ·obtain ⟨b,m,a,_,_⟩:=id r
    exact absurd r (NO.out M K (by have:=(List.getElem?_eq_some_iff.1 a).1;have:=H1.out.1;omega))
   exact ⟨a,t,H⟩
  obtain ⟨rfl,rfl,rfl⟩:=hR;go_wp2_with fail;refine bodyPost_ret (v:=.tuple #[.int .i64 0,.int .i64 0,.iface 58 (.int .i64 5)]) (by simp [results,Tryz.results77,go_sem, *] <;> trivial) rfl ?_;exact ⟨rfl,q1.out.trans (hb.mono q1.out.size)⟩
def Raw (_:World) (cs:List Value) (a:List Value):Prop:=cs=a
section
variable {α:Type}{T0:TypeId}{Pc:World->List Value->α->Prop}{s:Nat}{w:World}{B:Nat}{v:Value}{n:Nat}{l:List α}{css:List (List Value)}
theorem aq.raw (h:aq T0 Pc s w B v n l):∃ b:List (List Value),b.length=l.length/\(∀ (i:Nat) a cs,l[i]?=some a->b[i]?=some cs->Pc w cs a)/\aq T0 Raw s w B v n b:=by
 obtain ⟨k,o,j,b,e,d,c,g⟩:=h;exact ⟨b,d,g,d.trans k,o,j,b,e,rfl,c,fun i a cs m f=>by rw [m] at f;injection f with f;exact f.symm⟩
theorem aq.unraw (h:aq T0 Raw s w B v n css) (d:css.length=l.length) (f:∀ (i:Nat) a cs,l[i]?=some a->css[i]?=some cs->Pc w cs a):aq T0 Pc s w B v n l:=by
 obtain ⟨k,o,g,c,e,p,b,j⟩:=h
 have m:c=css:=List.ext_getElem? fun i=>by
  cases hc:css[i]? with
  | none=>exact List.getElem?_eq_none (by have:=List.getElem?_eq_none_iff.1 hc;omega)
  | some a =>
   have q:=(List.getElem?_eq_some_iff.1 hc).1;have hd:c[i]?=some c[i]:=List.getElem?_eq_getElem (by omega);rw [hd];exact congrArg some (j i a _ hc hd)
 subst m;exact ⟨d.symm.trans k,o,g,c,e,d,b,f⟩
end
theorem Ed {w b:World}{g:Nat}(k:w.grownBy b (some g)) (i:Nat) (u:Value):w.grownBy (b.setCell ⟨g,i,none⟩ u) (some g):=⟨k.os,k.tape,k.output,by simpa using k.size,fun x c a=>(Below.heap_setCell b ⟨g,i,none⟩ u x (fun e=>a (by rw [e]))).trans (k.block x c a)⟩
theorem Cn (w:World) (r:Option Nat):w.grownBy w r:=⟨rfl,rfl,rfl,Qr,fun _ _ _=>rfl⟩
structure RwM (w:World) (B g n c:Nat) (css:List (List Value)) (w':World):Prop where
  row:aq 56 Raw 7 w' B (.slice (some ⟨g,0,none⟩) n c) n css
  tch:Tch (bi 56) w w'
  grw:w.grownBy w' (some g)
theorem RwM.refl {w:World}{B g n c:Nat}{a:List (List Value)}(h:aq 56 Raw 7 w B (.slice (some ⟨g,0,none⟩) n c) n a):RwM w B g n c a w:=⟨h,Tch.refl _,Cn _ _⟩
theorem RwM.set {w d:World}{B g n c i j:Nat}{a:List (List Value)}{cs b:List Value}{u:Value}(h:RwM w B g n c a d) (l:a[i]?=some cs) (m:j<7) (k:noW u=true) (e:cs.set j u=b):RwM w B g n c (a.set i b) (d.setCell ⟨g,i*7+j,none⟩ u):=by
 obtain ⟨r,t,_,_⟩:=h.row.set (a':=b) l m k (fun _ _ _ x=>x) (fun f x=>by rw [show f=cs from x];exact e);exact ⟨r,h.tch.trans t,Ed h.grw _ _⟩
theorem fu {α:Type}{l:List α}{i:Nat}{a b:α}(h:l[i]?=some a):(l.set i b)[i]?=some b:=List.getElem?_set_self (List.getElem?_eq_some_iff.1 h).1
theorem RwM.x {w l:World}{B g n c i:Nat}{a:List (List Value)}{q y z u o m p d b f:Value}(h:RwM w B g n c a l) (k:a[i]?=some [q,y,z,u,o,m,p]) (t:noW d=true) (s:noW b=true) (v:noW f=true):RwM w B g n c (a.set i [q,d,b,f,o,m,p]) (((l.setCell ⟨g,i*7+1,none⟩ d).setCell ⟨g,i*7+2,none⟩ b).setCell ⟨g,i*7+3,none⟩ f):=by
 have r:=h.set (j:=1) k (by decide) t rfl;have k2:=r.set (j:=2) (fu k) (by decide) s rfl;have k3:=k2.set (j:=3) (fu (fu k)) (by decide) v rfl;rw [List.set_set,List.set_set] at k3;exact k3
theorem RwM.y {w l:World}{B g n c i:Nat}{a:List (List Value)}{o p q m v u z d b f:Value}(h:RwM w B g n c a l) (k:a[i]?=some [o,p,q,m,v,u,z]) (t:noW d=true) (s:noW b=true) (x:noW f=true):RwM w B g n c (a.set i [o,p,q,m,d,b,f]) (((l.setCell ⟨g,i*7+4,none⟩ d).setCell ⟨g,i*7+5,none⟩ b).setCell ⟨g,i*7+6,none⟩ f):=by
 have r:=h.set (j:=4) k (by decide) t rfl;have k2:=r.set (j:=5) (fu k) (by decide) s rfl;have k3:=k2.set (j:=6) (fu (fu k)) (by decide) x rfl;rw [List.set_set,List.set_set] at k3;exact k3
theorem RwM.xy {w m:World}{B g n c i:Nat}{a:List (List Value)}{p u v q s r t l d j f u5 u6:Value}(h:RwM w B g n c a m) (o:a[i]?=some [p,u,v,q,s,r,t]) (b:(noW l=true/\noW d=true/\noW j=true)/\noW f=true/\noW u5=true/\noW u6=true):RwM w B g n c (a.set i [p,l,d,j,f,u5,u6]) ((((((m.setCell ⟨g,i*7+1,none⟩ l).setCell ⟨g,i*7+2,none⟩ d).setCell ⟨g,i*7+3,none⟩ j).setCell ⟨g,i*7+4,none⟩ f).setCell ⟨g,i*7+5,none⟩ u5).setCell ⟨g,i*7+6,none⟩ u6):=by
 have k:=(h.x o b.1.1 b.1.2.1 b.1.2.2).y (fu o) b.2.1 b.2.2.1 b.2.2.2;rw [List.set_set] at k;exact k
theorem RwM.yx {w m:World}{B g n c i:Nat}{a:List (List Value)}{p u v q s r t l d j f u5 u6:Value}(h:RwM w B g n c a m) (o:a[i]?=some [p,u,v,q,s,r,t]) (b:(noW l=true/\noW d=true/\noW j=true)/\noW f=true/\noW u5=true/\noW u6=true):RwM w B g n c (a.set i [p,l,d,j,f,u5,u6]) ((((((m.setCell ⟨g,i*7+4,none⟩ f).setCell ⟨g,i*7+5,none⟩ u5).setCell ⟨g,i*7+6,none⟩ u6).setCell ⟨g,i*7+1,none⟩ l).setCell ⟨g,i*7+2,none⟩ d).setCell ⟨g,i*7+3,none⟩ j):=by
 have k:=(h.y o b.2.1 b.2.2.1 b.2.2.2).x (fu o) b.1.1 b.1.2.1 b.1.2.2;rw [List.set_set] at k;exact k
theorem jm.put {B:Nat}{w:World}{S n c:Nat}{l:List BodyL}{i:Nat}{b:BodyL}(h:jm B w (.slice (some ⟨S,0,none⟩) n c) n l) (K:l[i]?=some b):∃ A np p,w.cell? ⟨S,i*2+1,none⟩=some (.slice A np p)/\aq 56 (MkC 130) 7 w B (.slice A np p) np b.pts/\∀ D g (L:BodyL),A=some ⟨g,0,none⟩->w.grownBy D (some g)->Tch (bi 56) w D->L.name=b.name->aq 56 (MkC 130) 7 D B (.slice A np p) np L.pts->aq 51 (BdC 130) 2 D B (.slice (some ⟨S,0,none⟩) n c) n (l.set i L):=by
 obtain ⟨hl,Y,J,⟨f,e,H,o,W⟩,hd⟩:=h;have X:=(List.getElem?_eq_some_iff.1 K).1;have r:f[i]?=some f[i]:=List.getElem?_eq_getElem (by omega);obtain ⟨A,np,p,R,h1,h2⟩:=W i b _ K r
 have d:∀ (k:Nat) V P Q,f[k]?=some [aa (l.getD k b).name,.slice V P Q]->Y[k*2+1]?=some (.slice V P Q):=fun k V P Q F=>by
  rw [e,kg o F 1 (by decide)];rfl
 have I:l.getD i b=b:=by simp [List.getD,K]
 refine ⟨A,np,p,?_,h1,fun D g L hA hg t G hr=>?_⟩
 ·obtain ⟨g,cs,m,_,q⟩:=aq.at_ (T0:=51) (Pc:=BdO B) ⟨hl,Y,J,f,e,H,o,W⟩ K
  injection m with m;injection m with m;subst m;have j:=d i A np p (by rw [r,R,I]);obtain ⟨ac,v⟩:=J;rcases v with ⟨e,_⟩ | ⟨g',ab,cur,e,h2,E,h4,h5,h6,h7,h8⟩
  ·cases e
  injection e with m _ s;injection m with m;injection m with m;subst m s;unfold World.cell?;rw [E];rw [<- h7,List.getElem?_take] at j;split at j
  ·simpa using j
  cases j
 have t':Tch (bi 56) w D:=t;refine ⟨by rw [List.length_set,hl],Y,⟨J.1,?_⟩,f,e,by rw [List.length_set,H],o,fun k a cs u q=>?_⟩
 ·rcases J.2 with E | ⟨g',cap,cur,E,h4,h5,h6⟩
  ·exact .inl E
  exact .inr ⟨g',cap,cur,E,h4,t'.2 _ _ _ _ h5 (.inl (by decide)),h6⟩
 rw [List.getElem?_set] at u;by_cases F:i=k
 ·subst F
  rw [if_pos rfl,if_pos X] at u;injection u with u;subst u;rw [r] at q;injection q with q;subst q;exact ⟨A,np,p,by rw [R,G],hr.slT fun _ _ _ _ x q=>x.at_ q,by rw [G];exact h2⟩
 rw [if_neg F] at u;have T:=W k a cs u q;obtain ⟨Z,M,c2,f0,f1,f2⟩:=T;refine BdO.bdc (B:=B) ⟨Z,M,c2,f0,f1.gr hg (fun x j z=>?_) (fun _ _ y=>y.tch t'),f2⟩;injection z with z;subst z
 have N:Z=some ⟨g,0,none⟩:=by
  obtain ⟨_,ys,oy,_⟩:=f1;rcases oy.2 with ⟨s,_⟩ | ⟨g3,_,_,s,_⟩
  ·injection s with s _ _
   rw [s] at j;cases j
  injection s with s _ _;rw [s] at j ⊢;injection j with j;rw [show g3=g from j]
 have O:=d i A np p (by rw [r,R,I]);have U:=d k Z M c2 (by rw [q,f0];simp [List.getD,u]);rw [hA] at O;rw [N] at U;rcases Nat.lt_or_gt_of_ne F with C | C
 ·exact hd i k g np p M c2 C O U
 exact hd k i g M c2 np p C U O
def mvL (L:ag) (i j:Nat) (b:BodyL) (m:MarkL) (x y:Rat):ag:=⟨L.name,L.bodies.set i ⟨b.name,b.pts.set j ⟨m.name,rd x,rd y⟩⟩,L.joints,L.drivers⟩
def wV (l:List Tkn):Prop:=∃ t0 t1,l=[t0,t1]/\t0.kind=1/\t1.kind=1
def nB (L:ag) (nm txt:List UInt8) (x:Int) (L':ag):Prop:=∃ xp i j,sB L nm xp i j/\((xp≠0/\x=xp/\L'=L0)\/(xp=0/\∃ b m,L.bodies[i]?=some b/\b.pts[j]?=some m/\∃ xs l,bh txt xs l/\((xs≠0/\x=xs/\L'=L0)\/(xs=0/\((¬ wV l/\x=2/\L'=L0)\/∃ t0 t1,l=[t0,t1]/\t0.kind=1/\t1.kind=1/\∃ x0 q0,dY t0.text x0 q0/\((x0≠0/\x=x0/\L'=L0)\/(x0=0/\∃ x1 q1,dY t1.text x1 q1/\((x1≠0/\x=x1/\L'=L0)\/(x1=0 /\
  ((aG (mvL L i j b m q0 q1)≠0/\x=aG (mvL L i j b m q0 q1)/\L'=L0)\/(aG (mvL L i j b m q0 q1)=0/\x=0/\L'=mvL L i j b m q0 q1)))))))))))
theorem Fs (L:ag) (nm txt:List UInt8):∃ x L',nB L nm txt x L':=by
 obtain ⟨c,i,j,d⟩:=Fq L nm;by_cases h0:c=0
 ·obtain ⟨b,m,hb,n,_⟩:kG L nm i j:=by
   rcases d with ⟨_,h⟩ | ⟨h,_⟩
   ·exact h
   omega
  obtain ⟨f,l,k⟩:=rJ txt;by_cases h1:f=0
  ·by_cases h2:wV l
   ·obtain ⟨r,p,e,t,s⟩:=h2
    obtain ⟨x0,o,a⟩:=mU r.text;by_cases h3:x0=0
    ·obtain ⟨q,q1,g⟩:=mU p.text
     by_cases h4:q=0
     ·by_cases h5:aG (mvL L i j b m o q1)=0
      ·exact ⟨0,_,c,i,j,d,.inr ⟨h0,b,m,hb,n,f,l,k,.inr ⟨h1,.inr ⟨r,p,e,t,s,x0,o,a,.inr ⟨h3,q,q1,g,.inr ⟨h4,.inr ⟨h5,rfl,rfl⟩⟩⟩⟩⟩⟩⟩
      exact ⟨_,L0,c,i,j,d,.inr ⟨h0,b,m,hb,n,f,l,k,.inr ⟨h1,.inr ⟨r,p,e,t,s,x0,o,a,.inr ⟨h3,q,q1,g,.inr ⟨h4,.inl ⟨h5,rfl,rfl⟩⟩⟩⟩⟩⟩⟩
     exact ⟨q,L0,c,i,j,d,.inr ⟨h0,b,m,hb,n,f,l,k,.inr ⟨h1,.inr ⟨r,p,e,t,s,x0,o,a,.inr ⟨h3,q,q1,g,.inl ⟨h4,rfl,rfl⟩⟩⟩⟩⟩⟩
    exact ⟨x0,L0,c,i,j,d,.inr ⟨h0,b,m,hb,n,f,l,k,.inr ⟨h1,.inr ⟨r,p,e,t,s,x0,o,a,.inl ⟨h3,rfl,rfl⟩⟩⟩⟩⟩
   exact ⟨2,L0,c,i,j,d,.inr ⟨h0,b,m,hb,n,f,l,k,.inr ⟨h1,.inl ⟨h2,rfl,rfl⟩⟩⟩⟩
  exact ⟨f,L0,c,i,j,d,.inr ⟨h0,b,m,hb,n,f,l,k,.inl ⟨h1,rfl,rfl⟩⟩⟩
 exact ⟨c,L0,c,i,j,d,.inl ⟨h0,rfl,rfl⟩⟩
theorem Ee (w:World) (B:Nat) (hB:B<=w.heap.size) (A:Option Addr) (n c:Nat) (C:Option Addr) (p d:Nat) (D:Option Addr) (q e:Nat) (L:ag) (h:CpO B w A n c C p d D q e L) (hL:aG L=0) (cn:Mx w) (nm txt:List UInt8) (x:Int) (L':ag) (hR:nB L nm txt x L'):Calls Tryz.prog 37 #[.agg #[aa L.name,.slice A n c,.slice C p d,.slice D q e],aa nm,aa txt] w (Ao B w (bo x) L'):=by
 have x0:Blk ((w.alloc (.cells #[aa L.name,.slice A n c,.slice C p d,.slice D q e] 26)).alloc (.cells #[.string ⟨#[]⟩,.slice none 0 0,.slice none 0 0,.slice none 0 0] 26)) w.heap.size 26 #[aa L.name,.slice A n c,.slice C p d,.slice D q e]:=(Blk.new _ _ _).alloc _;have z0:Blk ((w.alloc (.cells #[aa L.name,.slice A n c,.slice C p d,.slice D q e] 26)).alloc (.cells #[.string ⟨#[]⟩,.slice none 0 0,.slice none 0 0,.slice none 0 0] 26)) (w.heap.size+1) 26 #[.string ⟨#[]⟩,.slice none 0 0,.slice none 0 0,.slice none 0 0]:=ak _ _ _ (by simp);have G:=((ae w).alloc Qr (.cells #[aa L.name,.slice A n c,.slice C p d,.slice D q e] 26)).alloc (by simp) (.cells #[.string ⟨#[]⟩,.slice none 0 0,.slice none 0 0,.slice none 0 0] 26);have hF:=bI hL;have fa:n<=8:=by rw [<- h.bd.1];exact hF.ok.nb
 have ek:L.bodies.length=n:=h.bd.1;have HF:=Qh hF;have BD:=Qh (h.bd.blw G);have JT:=Qh (h.jt.blw G);have DR:=Qh (h.dr.blw G);have HS:=Qh (h.lkY.blw G).out;have HM:=Qh (cn.belw G);have en:=Qh h.nm;obtain ⟨xp,i,j,hp,hR⟩:=hR;have HP:=Qh hp;have HR:=Qh hR;have G:=G.mono hB;clear h hR hF hp cn;go_in;go_wp2_with fail;generalize ((w.alloc (.cells #[aa L.name,.slice A n c,.slice C p d,.slice D q e] 26)).alloc (.cells #[.string ⟨#[]⟩,.slice none 0 0,.slice none 0 0,.slice none 0 0] 26))=w0 at x0 z0 G BD JT DR HS HM ⊢;refine (Cm w0 A n c C p d D q e L HS.out hL nm xp i j HP.out).mono ?_;rintro e' w1 ⟨rfl,K⟩;have bz:=Qh (BD.out.blw K);have cr:=Qh (JT.out.blw K);have bY:=Qh (DR.out.blw K);have eh:=Qh (HM.out.belw K);have x1:=x0.below K x0.lt;have z1:=z0.below K z0.lt;have q1:=G.trans (K.mono (Nat.le_trans hB G.size));clear BD JT DR HS HM x0 z0 G K;rcases HR.out with ⟨u,g,f⟩ | ⟨rfl,b,m,c7,dq,xs,l,hs,d1⟩
 ·rw [eVp u]
  have o:=Qh (And.intro u (And.intro g f));obtain ⟨b0,b1,b2,b3⟩:=z1.c4;obtain ⟨f0,f1,N,f3⟩:=z1.f4;clear u g f;go_wp2_with fail;refine bodyPost_ret (v:=.tuple #[.agg #[.string ⟨#[]⟩,.slice none 0 0,.slice none 0 0,.slice none 0 0],.iface 58 (.int .i64 (xp))]) (by simp [results,Tryz.results37,go_sem, *] <;> trivial) rfl ?_;rw [o.out.2.1,o.out.2.2,eVp o.out.1];exact ⟨_,_,_,_,_,_,_,_,_,rfl,LkY.zero _ _,cO q1 (by omega) _ _ _ _⟩
 rw [aO];have aC:=Qh c7;have Y:=Qh dq;have cb:=Qh d1;have es:=Qh hs;clear HR c7 dq d1 hs;go_wp2_with fail;refine (lj w1 txt xs l es.out).mono ?_;rintro e' w2 ⟨A5,n5,c5,rfl,hT,H⟩;have ch:=Qh (bz.out.blw H);have dv:=Qh (cr.out.blw H);have b8:=Qh (bY.out.blw H);have bn:=Qh (eh.out.belw H);have x2:=x1.below H x1.lt;have Z:=z1.below H z1.lt;have q2:=q1.trans (H.mono (Nat.le_trans hB q1.size));have HT:=Qh hT;clear bz cr bY eh x1 z1 q1 H hT;rcases cb.out with ⟨u,g,f⟩ | ⟨rfl,bg⟩
 ·rw [eVp u]
  have o:=Qh (And.intro u (And.intro g f));obtain ⟨b0,b1,b2,b3⟩:=Z.c4;obtain ⟨f0,f1,N,f3⟩:=Z.f4;clear u g f;go_wp2_with fail;refine bodyPost_ret (v:=.tuple #[.agg #[.string ⟨#[]⟩,.slice none 0 0,.slice none 0 0,.slice none 0 0],.iface 58 (.int .i64 (xs))]) (by simp [results,Tryz.results37,go_sem, *] <;> trivial) rfl ?_;rw [o.out.2.1,o.out.2.2,eVp o.out.1];exact ⟨_,_,_,_,_,_,_,_,_,rfl,LkY.zero _ _,cO q2 (by omega) _ _ _ _⟩
 rw [aO]
 have d6:¬ wV l->x=2/\L'=L0:=fun hh=>by
  rcases bg with ⟨_,s,Q⟩ | ⟨t0,t1,s,Q,e3,_⟩
  ·exact ⟨s,Q⟩
  exact absurd ⟨t0,t1,s,Q,e3⟩ hh
 have ad:=Qh d6;have cm:=Qh bg;clear cb bg d6;have V:l.length=n5:=HT.out.1;by_cases h2:n5=2;rotate_left
 ·have E:¬ wV l:=fun ⟨t0,t1,s,_⟩=>h2 (by rw [<- V,s];rfl)
  obtain ⟨I,J⟩:=ad.out E;have u1:((n5:Int)=2)=False:=eq_false (by omega);have u2:((n5:Int)==2)=false:=by simp;omega
  have o:=Qh (And.intro I J);obtain ⟨b0,b1,b2,b3⟩:=Z.c4;obtain ⟨f0,f1,N,f3⟩:=Z.f4;clear h2 E I J;go_wp2_with fail;refine bodyPost_ret (v:=.tuple #[.agg #[.string ⟨#[]⟩,.slice none 0 0,.slice none 0 0,.slice none 0 0],.iface 58 (.int .i64 (2))]) (by simp [results,Tryz.results37,go_sem, *] <;> trivial) rfl ?_;rw [o.out.1,o.out.2,eVp (show (2:Int)≠0 by decide)];exact ⟨_,_,_,_,_,_,_,_,_,rfl,LkY.zero _ _,cO q2 (by omega) _ _ _ _⟩
 subst h2;obtain ⟨gt,t0,rfl,fs,cu,bw,ck,_,_⟩:=HT.out.cells (i:=0) (by decide);obtain ⟨fn,t1,eg,_,d4,M,R,_,_⟩:=HT.out.cells (i:=1) (by decide);injection eg with eg;injection eg with eg;subst eg
 have J:l=[t0,t1]:=by
  match l,V,cu,d4 with
  | [a,b],_,h1,h2=>simp at h1 h2;rw [h1,h2]
 simp only [Nat.zero_mul,Nat.one_mul,Nat.zero_add] at bw ck M R;clear cu d4;by_cases X:t0.kind=1;rotate_left
 ·have E:¬ wV l:=fun ⟨s0,s1,s,Q,_⟩=>X (by rw [J] at s;injection s with s _;rw [s];exact Q)
  obtain ⟨I,S⟩:=ad.out E;have u1:(((t0.kind:Nat):Int)=1)=False:=eq_false (by omega);have u2:(((t0.kind:Nat):Int)==1)=false:=by simp;omega
  have o:=Qh (And.intro I S);obtain ⟨b0,b1,b2,b3⟩:=Z.c4;obtain ⟨f0,f1,N,f3⟩:=Z.f4;clear X E I S;go_wp2_with fail;refine bodyPost_ret (v:=.tuple #[.agg #[.string ⟨#[]⟩,.slice none 0 0,.slice none 0 0,.slice none 0 0],.iface 58 (.int .i64 (2))]) (by simp [results,Tryz.results37,go_sem, *] <;> trivial) rfl ?_;rw [o.out.1,o.out.2,eVp (show (2:Int)≠0 by decide)];exact ⟨_,_,_,_,_,_,_,_,_,rfl,LkY.zero _ _,cO q2 (by omega) _ _ _ _⟩
 rw [X] at bw;by_cases T:t1.kind=1;rotate_left
 ·have E:¬ wV l:=fun ⟨s0,s1,s,_,Q⟩=>T (by rw [J] at s;injection s with _ s;injection s with s _;rw [s];exact Q)
  obtain ⟨I,S⟩:=ad.out E;have u1:(((t1.kind:Nat):Int)=1)=False:=eq_false (by omega);have u2:(((t1.kind:Nat):Int)==1)=false:=by simp;omega
  have o:=Qh (And.intro I S);obtain ⟨b0,b1,b2,b3⟩:=Z.c4;obtain ⟨f0,f1,N,f3⟩:=Z.f4;clear T E I S;go_wp2_with fail;refine bodyPost_ret (v:=.tuple #[.agg #[.string ⟨#[]⟩,.slice none 0 0,.slice none 0 0,.slice none 0 0],.iface 58 (.int .i64 (2))]) (by simp [results,Tryz.results37,go_sem, *] <;> trivial) rfl ?_;rw [o.out.1,o.out.2,eVp (show (2:Int)≠0 by decide)];exact ⟨_,_,_,_,_,_,_,_,_,rfl,LkY.zero _ _,cO q2 (by omega) _ _ _ _⟩
 rw [T] at M
 obtain ⟨e0,r0,cz,cx⟩:∃ x0 G,dY t0.text x0 G/\((x0≠0/\x=x0/\L'=L0)\/(x0=0/\∃ x1 q1,dY t1.text x1 q1/\((x1≠0/\x=x1/\L'=L0)\/(x1=0/\((aG (mvL L i j b m G q1)≠0/\x=aG (mvL L i j b m G q1)/\L'=L0)\/(aG (mvL L i j b m G q1)=0/\x=0/\L'=mvL L i j b m G q1)))))):=by
  rcases cm.out with ⟨E,_,_⟩ | ⟨s0,s1,s,_,_,x0,G,h1,h2⟩
  ·exact absurd ⟨t0,t1,J,X,T⟩ E
  rw [J] at s;injection s with s Q;injection Q with Q _;subst s Q;exact ⟨x0,G,h1,h2⟩
 have d5:=Qh cz;have b5:=Qh cx;clear cm ad cz cx J V X T;go_wp2_with fail;refine (li w2 t0.text e0 r0 bn.out d5.out).mono ?_;rintro e' w3 ⟨vb,vA,vn,vc,vD,vm,ve,rfl,ea,z⟩;have ez:B<=w2.heap.size:=Nat.le_trans hB q2.size;have M:=ai M z;have R:=ai R z;clear bw ck;have eo:gt<w3.heap.size:=World.block_lt_of_cell? w3 _ M;have bx:=Qh (ch.out.blw z);have c6:=Qh (dv.out.blw z);have cL:=Qh (b8.out.blw z);have cy:=Qh (bn.out.belw z);have x3:=x2.below z x2.lt;have z3:=Z.below z Z.lt;have q3:=q2.trans (z.mono ez);have d2:=Qh ea;have fc:=z3.lt;clear ch dv b8 bn x2 Z q2 ea d5;rcases b5.out with ⟨u,g,f⟩ | ⟨rfl,s,r1,dn,d3⟩
 ·rw [eVp u]
  have o:=Qh (And.intro u (And.intro g f));obtain ⟨b0,b1,b2,b3⟩:=z3.c4;obtain ⟨f0,f1,N,f3⟩:=z3.f4;clear u g f M R;go_wp2_with fail;refine bodyPost_ret (v:=.tuple #[.agg #[.string ⟨#[]⟩,.slice none 0 0,.slice none 0 0,.slice none 0 0],.iface 58 (.int .i64 (e0))]) (by simp [results,Tryz.results37,go_sem, *] <;> trivial) rfl ?_;rw [o.out.2.1,o.out.2.2,eVp o.out.1];exact ⟨_,_,_,_,_,_,_,_,_,rfl,LkY.zero _ _,(cO q3 (by omega) _ _ _ _).alloc (by simp;omega) _⟩
 rw [aO];have b4:=Qh d3;have d7:=Qh dn;clear b5 d3 dn;have c2:¬ gt=w3.heap.size:=by omega
 go_wp2_with fail;have qa:=(ae w3).alloc Qr (.cells #[.bool vb,.slice vA vn vc,.slice vD vm ve] 54);have xa:Blk (w3.alloc (.cells #[.bool vb,.slice vA vn vc,.slice vD vm ve] 54)) w3.heap.size 54 #[.bool vb,.slice vA vn vc,.slice vD vm ve]:=Blk.new _ _ _;generalize (w3.alloc (.cells #[.bool vb,.slice vA vn vc,.slice vD vm ve] 54))=w4 at qa xa ⊢;refine (li w4 t1.text s r1 (cy.out.belw qa) d7.out).mono ?_;rintro e' w5 ⟨ub,uA,un,uc,uD,um,ue,rfl,eb,br⟩;have qb:=qa.trans (br.mono qa.size);have c9:B<=w3.heap.size:=Nat.le_trans hB q3.size;have ds:=Qh (bx.out.blw qb);have c8:=Qh (c6.out.blw qb);have ed:=Qh (cL.out.blw qb);have x5:=x3.below qb x3.lt;have z5:=z3.below qb z3.lt;have q5:=q3.trans (qb.mono c9);have ac:=xa.below br xa.lt;have a9:=Qh (d2.out.belw qb);have di:=Qh eb;have e8:=z5.lt;have e6:w3.heap.size<w5.heap.size:=ac.lt;clear bx c6 cL cy x3 z3 q3 eb d7 d2 xa qa qb br M R eo c2 z;rcases b4.out with ⟨u,g,f⟩ | ⟨rfl,ee⟩
 ·rw [eVp u]
  have o:=Qh (And.intro u (And.intro g f));obtain ⟨b0,b1,b2,b3⟩:=z5.c4;obtain ⟨f0,f1,N,f3⟩:=z5.f4;clear u g f;go_wp2_with fail;refine bodyPost_ret (v:=.tuple #[.agg #[.string ⟨#[]⟩,.slice none 0 0,.slice none 0 0,.slice none 0 0],.iface 58 (.int .i64 (s))]) (by simp [results,Tryz.results37,go_sem, *] <;> trivial) rfl ?_;rw [o.out.2.1,o.out.2.2,eVp o.out.1];exact ⟨_,_,_,_,_,_,_,_,_,rfl,LkY.zero _ _,(cO q5 (by omega) _ _ _ _).alloc (by simp;omega) _⟩
 rw [aO];have ey:=Qh ee;clear b4 ee;go_upto_region 15 with fail;refine cQ ?_;intro w6 bf;have F:Below w5.heap.size w5 w6:=by rw [bf];exact (ae w5).alloc Qr _
 have bv:Blk w6 w5.heap.size 54 #[.bool ub,.slice uA un uc,.slice uD um ue]:=by rw [bf];exact Blk.new _ _ _
 clear bf;have d0:B<=w5.heap.size:=Nat.le_trans hB q5.size;have aS:=ds.out.blw F;have b6:=Qh (c8.out.blw F);have db:=Qh (ed.out.blw F);have x6:=x5.below F x5.lt;have z6:=z5.below F z5.lt;have q6:=q5.trans (F.mono d0);have bu:=ac.below F ac.lt;have cc:=Qh (a9.out.belw F);have ca:=Qh (di.out.belw F);clear ds c8 ed x5 z5 q5 ac a9 di F;obtain ⟨gb,rfl⟩:=aS.row.some_ aC.out;obtain ⟨AM,np,cp,em,t,bb⟩:=aS.put aC.out;obtain ⟨r,rfl⟩:=t.some_ Y.out;obtain ⟨U,ei,bs,a6⟩:=t.raw;have bk:j<U.length:=by have:=(List.getElem?_eq_some_iff.1 Y.out).1;omega
 have ej:=bs j m U[j] Y.out (List.getElem?_eq_getElem bk);obtain ⟨mb,mA,mn,mc,mD,mm,me,ev,et,ex,eD,ep,eq,ew,dO,_,_,eA⟩:=ej;have aT:U[j]?=some [aa m.name,.bool mb,.slice mA mn mc,.slice mD mm me,.bool ev,.slice et ex eD,.slice ep eq ew]:=by rw [List.getElem?_eq_getElem bk,dO]
 have fb:i<n:=by rw [<- ek];exact (List.getElem?_eq_some_iff.1 aC.out).1
 have O:j<np:=by rw [<- t.1];exact (List.getElem?_eq_some_iff.1 Y.out).1
 have fr:np<=8:=by rw [<- t.1];exact (HF.out.ok.body b (List.mem_of_getElem? aC.out)).2.1
 obtain ⟨g1,v1,h1⟩:=t.cell (j:=1) O (by decide);obtain ⟨g2,v2,h2⟩:=t.cell (j:=2) O (by decide);obtain ⟨g3,v3,h3⟩:=t.cell (j:=3) O (by decide);obtain ⟨g4,v4,h4⟩:=t.cell (j:=4) O (by decide);obtain ⟨g5,v5,h5⟩:=t.cell (j:=5) O (by decide);obtain ⟨g6,v6,h6⟩:=t.cell (j:=6) O (by decide);obtain ⟨c0,c1,ab,c3⟩:=x6.c4;obtain ⟨a0,a1,a2⟩:=bu.c3;obtain ⟨a3,a4,a5⟩:=bv.c3;have e7:((i:Int)<(n:Int)):=by omega
 have fp:((j:Int)<(np:Int)):=by omega
 have W:=Qh (RwM.refl a6);have a7:=Qh bb;have bl:=Qh aT;have an:=Qh (And.intro ei (And.intro bs bk));have b9:=Qh aS
 have e9:B<=r:=by
  obtain ⟨_,xs,ho,_⟩:=t;exact (ho.at_ rfl).1
 clear aT dO bs ei a6 bb aS t;have e4:¬ r=w3.heap.size:=fun e=>W.out.row.neb bu (by decide) (by rw [<- e];rfl)
 have e5:¬ r=w5.heap.size:=fun e=>W.out.row.neb bv (by decide) (by rw [<- e];rfl)
 go_wp2_with fail;go_region
 all_goals
  first
  | (with_reducible change Exit.then _ _ _ _ (World.drew ((((((w6.setCell ⟨r,j*7+1,none⟩ (.bool vb)).setCell ⟨r,j*7+1+1,none⟩ (.slice vA vn vc)).setCell ⟨r,j*7+1+2,none⟩ (.slice vD vm ve)).setCell ⟨r,j*7+4,none⟩ (.bool ub)).setCell ⟨r,j*7+4+1,none⟩ (.slice uA un uc)).setCell ⟨r,j*7+4+2,none⟩ (.slice uD um ue)));generalize al:((((((w6.setCell ⟨r,j*7+1,none⟩ (.bool vb)).setCell ⟨r,j*7+1+1,none⟩ (.slice vA vn vc)).setCell ⟨r,j*7+1+2,none⟩ (.slice vD vm ve)).setCell ⟨r,j*7+4,none⟩ (.bool ub)).setCell ⟨r,j*7+4+1,none⟩ (.slice uA un uc)).setCell ⟨r,j*7+4+2,none⟩ (.slice uD um ue))=w7;have RM:RwM w6 B r np cp (U.set j [aa m.name,.bool vb,.slice vA vn vc,.slice vD vm ve,.bool ub,.slice uA un uc,.slice uD um ue]) w7:=by (rw [<- al];exact W.out.xy bl.out ⟨⟨rfl,rfl,rfl⟩,rfl,rfl,rfl⟩))
  | (with_reducible change Exit.then _ _ _ _ (World.drew ((((((w6.setCell ⟨r,j*7+4,none⟩ (.bool ub)).setCell ⟨r,j*7+4+1,none⟩ (.slice uA un uc)).setCell ⟨r,j*7+4+2,none⟩ (.slice uD um ue)).setCell ⟨r,j*7+1,none⟩ (.bool vb)).setCell ⟨r,j*7+1+1,none⟩ (.slice vA vn vc)).setCell ⟨r,j*7+1+2,none⟩ (.slice vD vm ve)));generalize al:((((((w6.setCell ⟨r,j*7+4,none⟩ (.bool ub)).setCell ⟨r,j*7+4+1,none⟩ (.slice uA un uc)).setCell ⟨r,j*7+4+2,none⟩ (.slice uD um ue)).setCell ⟨r,j*7+1,none⟩ (.bool vb)).setCell ⟨r,j*7+1+1,none⟩ (.slice vA vn vc)).setCell ⟨r,j*7+1+2,none⟩ (.slice vD vm ve))=w7;have RM:RwM w6 B r np cp (U.set j [aa m.name,.bool vb,.slice vA vn vc,.slice vD vm ve,.bool ub,.slice uA un uc,.slice uD um ue]) w7:=by (rw [<- al];exact W.out.yx bl.out ⟨⟨rfl,rfl,rfl⟩,rfl,rfl,rfl⟩))
  have cv:B<=w6.heap.size:=Nat.le_trans hB q6.size
  have a8:aq 56 (MkC 130) 7 w7 B (.slice (some ⟨r,0,none⟩) np cp) np (b.pts.set j ⟨m.name,rd r0,rd r1⟩):=RM.row.unraw (by rw [List.length_set,List.length_set];exact an.out.1) (fun k a cs ha hc=>by
   rw [List.getElem?_set] at ha hc;by_cases hk:j=k
   ·subst hk
    rw [if_pos rfl,if_pos (List.getElem?_eq_some_iff.1 Y.out).1] at ha;rw [if_pos rfl,if_pos an.out.2.2] at hc;injection ha with ha;injection hc with hc;subst ha hc;exact ⟨_,_,_,_,_,_,_,_,_,_,_,_,_,_,rfl,QD.tch cc.out RM.tch,QD.tch ca.out RM.tch,eA⟩
   rw [if_neg hk] at ha hc
   exact (an.out.2.1 k a cs ha hc).tch RM.tch)
  have ec:=a7.out w7 r ⟨b.name,b.pts.set j ⟨m.name,rd r0,rd r1⟩⟩ rfl RM.grw RM.tch rfl a8;have d9:LkY 130 w7 (some ⟨gb,0,none⟩) n c C p d D q e (mvL L i j b m r0 r1):=nA ec (b6.out.tch RM.tch (by decide) (fun _ _ y=>y)) (db.out.tch RM.tch (by decide) (fun _ _ y=>y)) en.out;have q7:Below B w w7:=q6.grown RM.grw cv (fun y hy=>by injection hy with hy;omega);have x7:Blk w7 w.heap.size 26 _:=RM.tch.2 _ _ _ _ x6 (.inl (by decide));have z7:Blk w7 (w.heap.size+1) 26 _:=RM.tch.2 _ _ _ _ z6 (.inl (by decide));have hd:Below w7.heap.size w7 w7.drew:=(ae w7).drew;have ao:=Qh (d9.blw hd);have x8:=x7.below hd x7.lt;have z8:=z7.below hd z7.lt;have q8:=q7.trans (hd.mono (Nat.le_trans hB q7.size));generalize w7.drew=w8 at ao x8 z8 q8 ⊢;clear al RM a8 ec d9 q7 x7 z7 hd a7 bl an W b9 x6 z6 q6 bu bv b6 db cc ca c0 c1 ab c3 a0 a1 a2 a3 a4 a5 h1 h2 h3 h4 h5 h6 g1 g2 g3 g4 g5 g6 em;obtain ⟨c0,c1,ab,c3⟩:=x8.c4;go_wp2_with fail;clear c0 c1 ab c3;have b7:Calls Tryz.prog 31 #[.agg #[aa L.name,.slice (some ⟨gb,0,none⟩) n c,.slice C p d,.slice D q e]] w8 (ax w8 (bo (aG (mvL L i j b m r0 r1)))):=dJ w8 (some ⟨gb,0,none⟩) n c C p d D q e (mvL L i j b m r0 r1) 130 ao.out.out (by decide) (by decide) _ rfl;refine b7.mono ?_;rintro e' w9 ⟨rfl,P⟩;clear b7;have x9:=x8.below P x8.lt;have z9:=z8.below P z8.lt;have q9:=q8.trans (P.mono (Nat.le_trans hB q8.size));have el:=Qh (ao.out.blw P);obtain ⟨b0,b1,b2,b3⟩:=z9.c4;obtain ⟨f0,f1,N,f3⟩:=z9.f4;obtain ⟨c0,c1,ab,c3⟩:=x9.c4;have eQ:=x9.lt;have eW:=z9.lt;clear x8 z8 q8 ao P;rcases ey.out with ⟨u,g,f⟩ | ⟨u,g,f⟩
  ·rw [eVp u]
   have o:=Qh (And.intro u (And.intro g f));clear u g f;go_wp2_with fail;refine bodyPost_ret (v:=.tuple #[.agg #[.string ⟨#[]⟩,.slice none 0 0,.slice none 0 0,.slice none 0 0],.iface 58 (.int .i64 (aG (mvL L i j b m r0 r1)))]) (by simp [results,Tryz.results37,go_sem, *] <;> trivial) rfl ?_;rw [o.out.2.1,o.out.2.2,eVp o.out.1];exact ⟨_,_,_,_,_,_,_,_,_,rfl,LkY.zero _ _,cO q9 (by omega) _ _ _ _⟩
  rw [u,aO];have o:=Qh (And.intro g f);clear u g f;go_wp2_with fail;have t9:=lm z9 ⟨rfl,rfl,rfl,rfl⟩ (aa L.name) (.slice (some ⟨gb,0,none⟩) n c) (.slice C p d) (.slice D q e);refine bodyPost_ret (v:=.tuple #[.agg #[aa L.name,.slice (some ⟨gb,0,none⟩) n c,.slice C p d,.slice D q e],.nilIface]) (by simp [results,Tryz.results37,go_sem, *] <;> trivial) rfl ?_;rw [o.out.1,o.out.2,aO];exact ⟨_,_,_,_,_,_,_,_,_,rfl,el.out.tch t9 (by decide) (by decide) (by decide) (by decide),cO q9 (by omega) _ _ _ _⟩
def tP {α:Type}(f:α->List UInt8) (l:List α) (nm:List UInt8) (x:Int) (L' M:ag) (mk:Nat->ag):Prop:=(gG (l.map f) nm=-1/\x=5/\L'=M)\/∃ k:Nat,k<l.length/\gG (l.map f) nm=(k:Nat)/\x=0/\L'=mk k
theorem Ar {α:Type}(f:α->List UInt8) (l:List α) (nm:List UInt8) (M:ag) (mk:Nat->ag):∃ x L',tP f l nm x L' M mk:=by
 rcases idxN_cases (l.map f) nm with h | ⟨k,h,a⟩
 ·exact ⟨5,M,.inl ⟨h,rfl,rfl⟩⟩
 exact ⟨0,mk k,.inr ⟨k,by have:=(List.getElem?_eq_some_iff.1 a).1;simpa using this,h,rfl,rfl⟩⟩
def Co (L:ag) (k:Nat):ag:=⟨L.name,L.bodies,L.joints.eraseIdx k,L.drivers⟩
def Cp (L:ag) (k:Nat):ag:=⟨L.name,L.bodies,L.joints,L.drivers.eraseIdx k⟩
inductive ApK (L:ag) (ed:bL) (x:Int) (L':ag):Prop
  | addN (hk:ed.kind=0) (hn:ed.name≠[]) (hx:x=2) (hl:L'=L0)
  | addO (hk:ed.kind=0) (hn:ed.name=[]) (ho:cg L≠0) (hx:x=cg L) (hl:L'=L0)
  | add (hk:ed.kind=0) (hn:ed.name=[]) (ho:cg L=0) (hr:dk (bX L++32::ed.text) x L')
  | ren (hk:ed.kind=4) (hr:tM L ed.name ed.text x L')
  | mv (hk:ed.kind=5) (hr:nB L ed.name ed.text x L')
  | none (h0:ed.kind<0\/5<ed.kind) (hx:x=7) (hl:L'=L0)
  | offT (hk:1<=ed.kind/\ed.kind<=3) (ht:ed.text≠[]) (hx:x=2) (hl:L'=L0)
  | rem (hk:ed.kind=1) (ht:ed.text=[]) (hr:qp L ed.name x L')
  | jt (hk:ed.kind=2) (ht:ed.text=[]) (hr:tP aD.name L.joints ed.name x L' L0 (Co L))
  | dr (hk:ed.kind=3) (ht:ed.text=[]) (hr:tP aE.name L.drivers ed.name x L' L0 (Cp L))
theorem apK (L:ag) (ed:bL):∃ x a,ApK L ed x a:=by
 by_cases h:ed.kind<0\/5<ed.kind
 ·exact ⟨7,L0,.none h rfl rfl⟩
 by_cases h0:ed.kind=0
 ·by_cases hn:ed.name=[]
  ·by_cases ho:cg L=0
   ·obtain ⟨x,a,b⟩:=BP (bX L++32::ed.text)
    exact ⟨x,a,.add h0 hn ho b⟩
   exact ⟨_,L0,.addO h0 hn ho rfl rfl⟩
  exact ⟨2,L0,.addN h0 hn rfl rfl⟩
 by_cases h4:ed.kind=4
 ·obtain ⟨x,a,b⟩:=Eb L ed.name ed.text
  exact ⟨x,a,.ren h4 b⟩
 by_cases h5:ed.kind=5
 ·obtain ⟨x,a,b⟩:=Fs L ed.name ed.text
  exact ⟨x,a,.mv h5 b⟩
 by_cases ht:ed.text=[]
 ·by_cases h1:ed.kind=1
  ·obtain ⟨x,a,b⟩:=Ec L ed.name
   exact ⟨x,a,.rem h1 ht b⟩
  by_cases h2:ed.kind=2
  ·obtain ⟨x,a,b⟩:=Ar aD.name L.joints ed.name L0 (Co L)
   exact ⟨x,a,.jt h2 ht b⟩
  obtain ⟨x,a,b⟩:=Ar aE.name L.drivers ed.name L0 (Cp L);exact ⟨x,a,.dr (by omega) ht b⟩
 exact ⟨2,L0,.offT (by omega) ht rfl rfl⟩
theorem JtC.ones {w:World}{cs:List Value}{a:aD}(h:JtC w cs a):∀ u∈cs,u.oneCell'=true:=by
 obtain ⟨c,_⟩:=h;subst c;intro u b;simp at b;rcases b with rfl | rfl | rfl | rfl | rfl | rfl | rfl <;> simp [Value.oneCell']
theorem DrC.ones {w:World}{cs:List Value}{a:aE}(h:DrC w cs a):∀ u∈cs,u.oneCell'=true:=by
 obtain ⟨c,_⟩:=h;subst c;intro u b;simp at b;rcases b with rfl | rfl <;> simp [Value.oneCell']
theorem JtC.any {w b:World}{cs:List Value}{a:aD}(h:JtC w cs a):JtC b cs a:=h
theorem DrC.any {w b:World}{cs:List Value}{a:aE}(h:DrC w cs a):DrC b cs a:=h
theorem CpO.tch {B:Nat}{w a:World}{A C D:Option Addr}{n c p d q e:Nat}{L:ag}{T:TypeId->Bool}(h:CpO B w A n c C p d D q e L) (t:Tch T w a) (g:T 56=false) (b:T 51=false) (i:T 81=false) (f:T 86=false):CpO B a A n c C p d D q e L:=⟨h.bd.tch t g b,h.jt.tch t i (fun _ _ x=>x),h.dr.tch t f (fun _ _ x=>x),h.nm⟩
theorem gi {w a:World}{z:Nat}{x:Int}{v:Value}(b:bo x=v) (h:Below w.heap.size w a) (c:w.heap.size<=z):iq w (bo x) L0 (.returned (.tuple #[.agg #[.string ⟨#[]⟩,.slice none 0 0,.slice none 0 0,.slice none 0 0],v])) ((((a.setCell ⟨z,0,none⟩ (.string ⟨#[]⟩)).setCell ⟨z,1,none⟩ (.slice none 0 0)).setCell ⟨z,2,none⟩ (.slice none 0 0)).setCell ⟨z,3,none⟩ (.slice none 0 0)):=by
 subst b;exact ⟨_,_,_,_,_,_,_,_,_,rfl,LkY.zero _ _,cO h c _ _ _ _⟩
theorem lq {w a:World}{z:Nat}{x:Int}{v:Value}{L:ag}{A C D:Option Addr}{n c p d q e:Nat}{g i j f:Value}(k:bo x=v) (l:Blk a z 26 #[g,i,j,f]) (b:noW g=true/\noW i=true/\noW j=true/\noW f=true) (m:LkY 130 a A n c C p d D q e L) (h:Below w.heap.size w a) (o:w.heap.size<=z):iq w (bo x) L (.returned (.tuple #[.agg #[aa L.name,.slice A n c,.slice C p d,.slice D q e],v])) ((((a.setCell ⟨z,0,none⟩ (aa L.name)).setCell ⟨z,1,none⟩ (.slice A n c)).setCell ⟨z,2,none⟩ (.slice C p d)).setCell ⟨z,3,none⟩ (.slice D q e)):=by
 subst k;exact ⟨_,_,_,_,_,_,_,_,_,rfl,m.tch (lm l b _ _ _ _) (by decide) (by decide) (by decide) (by decide),cO h o _ _ _ _⟩
theorem nC (L:ag) (hL:aG L=0) (ed:bL) (hT:ed.text.length<=1000000) (x:Int) (L':ag) (hR:ApK L ed x L'):ApC L ed x L':=by
 intro w A n c C p d D q e a7 bs hY;have x0:Blk (((w.alloc (.cells #[aa L.name,.slice A n c,.slice C p d,.slice D q e] 26)).alloc (.cells #[.int .i64 ed.kind,aa ed.name,aa ed.text] 39)).alloc (.cells #[.string ⟨#[]⟩,.slice none 0 0,.slice none 0 0,.slice none 0 0] 26)) w.heap.size 26 #[aa L.name,.slice A n c,.slice C p d,.slice D q e]:=((Blk.new _ _ _).alloc _).alloc _;have y0:Blk (((w.alloc (.cells #[aa L.name,.slice A n c,.slice C p d,.slice D q e] 26)).alloc (.cells #[.int .i64 ed.kind,aa ed.name,aa ed.text] 39)).alloc (.cells #[.string ⟨#[]⟩,.slice none 0 0,.slice none 0 0,.slice none 0 0] 26)) (w.heap.size+1) 39 #[.int .i64 ed.kind,aa ed.name,aa ed.text]:=(ak _ _ _ (by simp)).alloc _;have z0:Blk (((w.alloc (.cells #[aa L.name,.slice A n c,.slice C p d,.slice D q e] 26)).alloc (.cells #[.int .i64 ed.kind,aa ed.name,aa ed.text] 39)).alloc (.cells #[.string ⟨#[]⟩,.slice none 0 0,.slice none 0 0,.slice none 0 0] 26)) (w.heap.size+1+1) 26 #[.string ⟨#[]⟩,.slice none 0 0,.slice none 0 0,.slice none 0 0]:=ak _ _ _ (by simp);have q0:=(((ae w).alloc Qr (.cells #[aa L.name,.slice A n c,.slice C p d,.slice D q e] 26)).alloc (by simp) (.cells #[.int .i64 ed.kind,aa ed.name,aa ed.text] 39)).alloc (by simp;omega) (.cells #[.string ⟨#[]⟩,.slice none 0 0,.slice none 0 0,.slice none 0 0] 26);have hF:=bI hL;have cb:n<=8:=by rw [<- hY.bodies.1];exact hF.ok.nb
 have b4:p<=16:=by rw [<- hY.joints.1];exact hF.ok.nj
 have ca:q<=2:=by rw [<- hY.drivers.1];exact hF.ok.nd
 have H0:=Qh (hY.belw q0);have a9:=Qh a7;have HM:=Qh bs;have HR:=Qh hR;clear hR hY a7 bs hF;go_in;go_wp2_with fail;generalize (((w.alloc (.cells #[aa L.name,.slice A n c,.slice C p d,.slice D q e] 26)).alloc (.cells #[.int .i64 ed.kind,aa ed.name,aa ed.text] 39)).alloc (.cells #[.string ⟨#[]⟩,.slice none 0 0,.slice none 0 0,.slice none 0 0] 26))=w0 at x0 y0 z0 q0 H0 ⊢;refine (dJ w0 A n c C p d D q e L 130 H0.out (by decide) (by decide) 0 hL).mono ?_;rintro e' V ⟨rfl,ad⟩;rw [aO];have x1:=x0.below ad x0.lt;have y1:=y0.below ad y0.lt;have z1:=z0.below ad z0.lt;have H1:=Qh (H0.out.belw ad);have q1:=q0.trans (ad.mono q0.size);obtain ⟨a0,a1,a2,a3⟩:=x1.c4;have a8:=jD hL;have bb:=Qh (show n=L.bodies.length/\p=L.joints.length/\q=L.drivers.length from ⟨H1.out.bodies.1.symm,H1.out.joints.1.symm,H1.out.drivers.1.symm⟩);clear x0 y0 z0 q0 ad H0;go_wp2_with fail;refine (DV V A n c C p d D q e L H1.out a8).mono ?_;rintro e' w2 ⟨A2,n2,c2,C2,p2,d2,D2,r2,f2,rfl,al,ab⟩;obtain rfl:n=n2:=by rw [<- al.bd.1];exact bb.out.1
 obtain rfl:p=p2:=by rw [<- al.jt.1];exact bb.out.2.1
 obtain rfl:q=r2:=by rw [<- al.dr.1];exact bb.out.2.2
 have x2:=x1.below ab x1.lt;have y2:=y1.below ab y1.lt;have z2:=z1.below ab z1.lt;have q2:=q1.trans (ab.mono q1.size);have HC:=Qh al;have hB:V.heap.size<=w2.heap.size:=ab.size;have bk:w.heap.size+1+1<V.heap.size:=z1.lt;obtain ⟨f0,f1,M,f3⟩:=x2.f4;obtain ⟨c0,c1,K,c3⟩:=x2.c4;clear x1 y1 z1 q1 ab H1 a0 a1 a2 a3 al a8;go_upto_region 5 with fail;refine cQ ?_;intro F ac;have t3:Tch (bi 26) w2 F:=by rw [ac];exact lm x2 ⟨rfl,rfl,rfl,rfl⟩ _ _ _ _
 have u:Hid (CpO V.heap.size F A2 n c2 C2 p d2 D2 q f2 L):=Qh (HC.out.tch t3 (by decide) (by decide) (by decide) (by decide));have q3:Below w.heap.size w F:=by rw [ac];exact cO q2 Qr _ _ _ _
 have far:∀ {g t:Nat}{cs:Array Value},Blk w2 g t cs->g≠w.heap.size->Blk F g t cs:=fun x a4=>by rw [ac];exact (((x.far (p:=⟨w.heap.size,0,none⟩) a4 _).far (p:=⟨w.heap.size,1,none⟩) a4 _).far (p:=⟨w.heap.size,2,none⟩) a4 _).far (p:=⟨w.heap.size,3,none⟩) a4 _
 have x3:Blk F w.heap.size 26 #[aa L.name,.slice A2 n c2,.slice C2 p d2,.slice D2 q f2]:=by rw [ac];exact x2.s4 _ _ _ _
 have Y:=far y2 (by omega);have l:=far z2 (by omega);have bv:F.heap.size=w2.heap.size:=by rw [ac];simp
 have aS:=Qh (a9.out.belw q3);have bl:=Qh (HM.out.belw q3);clear ac x2 y2 z2 q2 HC t3 far c0 c1 K c3 f0 f1 M f3 a9 HM;have bf:V.heap.size<=F.heap.size:=by omega
 have an:w.heap.size<=V.heap.size:=by omega
 clear hB bv;have i:F.cell? ⟨w.heap.size+1,0,none⟩=some (.int .i64 ed.kind):=Y.cell 0;have s:F.cell? ⟨w.heap.size+1,1,none⟩=some (aa ed.name):=Y.cell 1;have z:F.cell? ⟨w.heap.size+1,2,none⟩=some (aa ed.text):=Y.cell 2;obtain ⟨c0,c1,K,c3⟩:=x3.c4;have U:=x3.lt;have W:=l.lt;rcases HR.out with ⟨B,hn,o,m⟩ | ⟨B,hn,O,o,m⟩ | ⟨B,hn,O,P⟩ | ⟨B,P⟩ | ⟨B,P⟩ | ⟨B,o,m⟩ | ⟨B,ht,o,m⟩ | ⟨B,ht,P⟩ | ⟨B,ht,P⟩ | ⟨B,ht,P⟩
 ·have G:=Qh (And.intro o m)
  rw [B] at i;have n1:(ed.name=[])=False:=eq_false hn;have n2:(ed.name==[])=false:=by simpa using hn
  have n3:=aF ed.name;clear o m HR;obtain ⟨b0,b1,b2,b3⟩:=l.c4;obtain ⟨f0,f1,M,f3⟩:=l.f4;go_wp2_with fail;refine bodyPost_ret (v:=.tuple #[.agg #[.string ⟨#[]⟩,.slice none 0 0,.slice none 0 0,.slice none 0 0],.iface 58 (.int .i64 2)]) (by simp [results,Tryz.results15,go_sem, *] <;> trivial) rfl ?_;rw [G.out.2];exact gi (by rw [G.out.1];exact eVp (by decide)) q3 (by omega)
 ·rw [B] at i
  rw [hn] at s;have E:=Qh (And.intro o (And.intro m O));clear HR o m O;go_wp2_with fail;refine (CG F A2 n c2 C2 p d2 D2 q f2 L (u.out.lkS.upto (by decide)) aS.out).mono ?_;rintro e' w4 ⟨rfl,b⟩;have y4:=Y.below b Y.lt;have Q:=l.below b l.lt;have q4:=q3.trans (b.mono q3.size);have br:=Qh (bl.out.belw b);clear i s z c0 c1 K c3 x3 Y l q3 b U W;rw [eVp E.out.2.2];obtain ⟨b0,b1,b2,b3⟩:=Q.c4;obtain ⟨f0,f1,M,f3⟩:=Q.f4;go_wp2_with fail;refine bodyPost_ret (v:=.tuple #[.agg #[.string ⟨#[]⟩,.slice none 0 0,.slice none 0 0,.slice none 0 0],.iface 58 (.int .i64 (cg L))]) (by simp [results,Tryz.results15,go_sem, *] <;> trivial) rfl ?_;rw [E.out.2.1];exact gi (by rw [E.out.1];exact eVp E.out.2.2) q4 (by omega)
 ·rw [B] at i
  rw [hn] at s;have E:=Qh (And.intro P O);clear HR P O;go_wp2_with fail;refine (CG F A2 n c2 C2 p d2 D2 q f2 L (u.out.lkS.upto (by decide)) aS.out).mono ?_;rintro e' w4 ⟨rfl,b⟩;have y4:=Y.below b Y.lt;have Q:=l.below b l.lt;have q4:=q3.trans (b.mono q3.size);have br:=Qh (bl.out.belw b);clear i s z c0 c1 K c3 x3 Y l q3 b U W;have e1:dI L=bX L:=if_pos E.out.2;rw [e1,E.out.2,aO];have g2:=y4.cell 2;have hS:(bX L++[32])++ed.text=bX L++32::ed.text:=by simp
  have m:(bX L).length<=65536:=by
   have O:=E.out.2;unfold cg at O;rw [if_neg (by simp [hL])] at O;split at O
   ·omega
   rename_i hh;omega
  have k1:(9223372036854775807<(bX L).length+1)=False:=eq_false (by omega);have k2:(9223372036854775807<(bX L).length+1+ed.text.length)=False:=eq_false (by omega);go_wp2_with fail
  have es:Value.string ((⟨(bX L).toArray⟩:ByteArray)++⟨#[32]⟩++⟨ed.text.toArray⟩)=aa (bX L++32::ed.text):=by
   rw [<- hS];congr 1
  rw [es];refine (si w4 _ x L' br.out E.out.1).mono ?_;rintro e' w5 ⟨A3,n3,k3,C3,p3,d3,D3,r3,f3,rfl,r,f⟩;have R:=Q.below f Q.lt;have q5:=q4.trans (f.mono q4.size);have S:=Qh r;obtain ⟨a0,a1,a2,a3⟩:=R.c4;obtain ⟨b0,b1,b2,b3⟩:=R.f4;clear g2 y4 Q q4 f r es hS;go_wp2_with fail;refine bodyPost_ret (v:=.tuple #[.agg #[aa L'.name,.slice A3 n3 k3,.slice C3 p3 d3,.slice D3 r3 f3],bo x]) (by simp [results,Tryz.results15,go_sem, *] <;> trivial) rfl ?_;exact lq rfl R ⟨rfl,rfl,rfl,rfl⟩ S.out q5 (by omega)
 ·rw [B] at i
  have E:=Qh P;clear P HR;go_wp2_with fail;refine (Am F A2 n c2 C2 p d2 D2 q f2 L u.out.lkS hL ed.name ed.text (show ed.text.length<_ by omega) x L' E.out).mono ?_;rintro e' w5 ⟨A3,n3,k3,C3,p3,d3,D3,r3,f3,rfl,r,f⟩;have f:Below V.heap.size F w5:=f.mono bf;have R:Blk w5 (w.heap.size+1+1) 26 #[.string ⟨#[]⟩,.slice none 0 0,.slice none 0 0,.slice none 0 0]:=l.below f bk;have q5:=q3.trans (f.mono an);have S:=Qh r;obtain ⟨a0,a1,a2,a3⟩:=R.c4;obtain ⟨b0,b1,b2,b3⟩:=R.f4;clear i s z c0 c1 K c3 x3 Y l q3 f r U W;go_wp2_with fail;refine bodyPost_ret (v:=.tuple #[.agg #[aa L'.name,.slice A3 n3 k3,.slice C3 p3 d3,.slice D3 r3 f3],bo x]) (by simp [results,Tryz.results15,go_sem, *] <;> trivial) rfl ?_;exact lq rfl R ⟨rfl,rfl,rfl,rfl⟩ S.out q5 (by omega)
 ·rw [B] at i
  have E:=Qh P;clear P HR;go_wp2_with fail;refine (Ee F V.heap.size bf A2 n c2 C2 p d2 D2 q f2 L u.out hL bl.out ed.name ed.text x L' E.out).mono ?_;rintro e' w5 ⟨A3,n3,k3,C3,p3,d3,D3,r3,f3,rfl,r,f⟩;have f:Below V.heap.size F w5:=f;have R:Blk w5 (w.heap.size+1+1) 26 #[.string ⟨#[]⟩,.slice none 0 0,.slice none 0 0,.slice none 0 0]:=l.below f bk;have q5:=q3.trans (f.mono an);have S:=Qh r;obtain ⟨a0,a1,a2,a3⟩:=R.c4;obtain ⟨b0,b1,b2,b3⟩:=R.f4;clear i s z c0 c1 K c3 x3 Y l q3 f r U W;go_wp2_with fail;refine bodyPost_ret (v:=.tuple #[.agg #[aa L'.name,.slice A3 n3 k3,.slice C3 p3 d3,.slice D3 r3 f3],bo x]) (by simp [results,Tryz.results15,go_sem, *] <;> trivial) rfl ?_;exact lq rfl R ⟨rfl,rfl,rfl,rfl⟩ S.out q5 (by omega)
 ·have G:=Qh (And.intro o m)
  have b9:(ed.kind=0)=False:=eq_false (by omega);have cr:(ed.kind==0)=false:=by simp;omega
  have cc:(ed.kind=4)=False:=eq_false (by omega);have b5:(ed.kind==4)=false:=by simp;omega
  have cm:(ed.kind=5)=False:=eq_false (by omega);have b8:(ed.kind==5)=false:=by simp;omega
  have b7:(ed.kind=1)=False:=eq_false (by omega);have cn:(ed.kind==1)=false:=by simp;omega
  have b6:(ed.kind=2)=False:=eq_false (by omega);have ck:(ed.kind==2)=false:=by simp;omega
  have cp:(ed.kind=3)=False:=eq_false (by omega);have ch:(ed.kind==3)=false:=by simp;omega
  clear o m HR;obtain ⟨b0,b1,b2,b3⟩:=l.c4;obtain ⟨f0,f1,M,f3⟩:=l.f4;go_wp2_with fail;refine bodyPost_ret (v:=.tuple #[.agg #[.string ⟨#[]⟩,.slice none 0 0,.slice none 0 0,.slice none 0 0],.iface 58 (.int .i64 7)]) (by simp [results,Tryz.results15,go_sem, *] <;> trivial) rfl ?_;rw [G.out.2];exact gi (by rw [G.out.1];exact eVp (by decide)) q3 (by omega)
 ·have G:=Qh (And.intro o m)
  clear o m HR;obtain B | B | B:ed.kind=1\/ed.kind=2\/ed.kind=3:=by omega
  all_goals
   rw [B] at i;have n1:(ed.text=[])=False:=eq_false ht;have n2:(ed.text==[])=false:=by simpa using ht
   have n3:=aF ed.text;obtain ⟨b0,b1,b2,b3⟩:=l.c4;obtain ⟨f0,f1,M,f3⟩:=l.f4;go_wp2_with fail;refine bodyPost_ret (v:=.tuple #[.agg #[.string ⟨#[]⟩,.slice none 0 0,.slice none 0 0,.slice none 0 0],.iface 58 (.int .i64 2)]) (by simp [results,Tryz.results15,go_sem, *] <;> trivial) rfl ?_;rw [G.out.2];exact gi (by rw [G.out.1];exact eVp (by decide)) q3 (by omega)
 ·rw [B] at i
  rw [ht] at z;have E:=Qh P;clear P HR;go_wp2_with fail;refine (Aq F V.heap.size bf A2 n c2 C2 p d2 D2 q f2 L u.out hL ed.name x L' E.out).mono ?_;rintro e' w5 ⟨A3,n3,k3,C3,p3,d3,D3,r3,f3,rfl,r,f⟩;have f:Below V.heap.size F w5:=f;have R:Blk w5 (w.heap.size+1+1) 26 #[.string ⟨#[]⟩,.slice none 0 0,.slice none 0 0,.slice none 0 0]:=l.below f bk;have q5:=q3.trans (f.mono an);have S:=Qh r;obtain ⟨a0,a1,a2,a3⟩:=R.c4;obtain ⟨b0,b1,b2,b3⟩:=R.f4;clear i s z c0 c1 K c3 x3 Y l q3 f r U W;go_wp2_with fail;refine bodyPost_ret (v:=.tuple #[.agg #[aa L'.name,.slice A3 n3 k3,.slice C3 p3 d3,.slice D3 r3 f3],bo x]) (by simp [results,Tryz.results15,go_sem, *] <;> trivial) rfl ?_;exact lq rfl R ⟨rfl,rfl,rfl,rfl⟩ S.out q5 (by omega)
 ·rw [B] at i
  rw [ht] at z;have E:=Qh P;clear P HR;go_wp2_with fail;refine (zS F C2 p d2 L.joints u.out.jt.jts (by omega) (w.heap.size+1) ed.name s).mono ?_;rintro e' w4 ⟨rfl,b⟩;have x4:=x3.below b x3.lt;have Q:=l.below b l.lt;have q4:=q3.trans (b.mono q3.size);have H:=Qh (u.out.tch (T:=fun _=>false) (Tch.below b) rfl rfl rfl rfl);have bn:=b.size;clear i s z c0 c1 K c3 x3 Y l q3 b U W;rcases E.out with ⟨hi,o,m⟩ | ⟨k,aT,hi,o,m⟩
  ·rw [hi]
   have G:=Qh (And.intro o m);clear o m hi;obtain ⟨b0,b1,b2,b3⟩:=Q.c4;obtain ⟨f0,f1,M,f3⟩:=Q.f4;go_wp2_with fail;refine bodyPost_ret (v:=.tuple #[.agg #[.string ⟨#[]⟩,.slice none 0 0,.slice none 0 0,.slice none 0 0],.iface 58 (.int .i64 5)]) (by simp [results,Tryz.results15,go_sem, *] <;> trivial) rfl ?_;rw [G.out.2];exact gi (by rw [G.out.1];exact eVp (by decide)) q4 (by omega)
  rw [hi];have bu:k<p:=by rw [<- H.out.jt.1];exact aT
  have G:=Qh (And.intro o m);obtain ⟨I,eA⟩:=H.out.jt.some_ (List.getElem?_eq_getElem aT);have j:=H.out;rw [eA] at j;have N:=Qh j.jt;have ao:=Qh j.bd.row;have a6:=Qh j.jt;have a5:=Qh j.dr;have bg:=Qh j.nm;rw [eA] at x4;clear o m hi E H u j;obtain ⟨a0,a1,a2,a3⟩:=x4.c4;have bY:((k:Int)<0)=False:=by simp
  go_wp2_with fail;clear a0 a1 a2 a3;refine (zO w4 V.heap.size I p d2 k L.joints N.out (fun w cs a h=>h.ones) (by omega) (by omega) (fun w' cs a t h=>h.any)).mono ?_;rintro e' J ⟨rfl,R6,X⟩
  have Z:Tch (bi 81) w4 J:=by
   obtain ⟨_,xs,O,_⟩:=N.out;exact Tch.grown (fun _ hu=>hu) (by simp [bi]) O X
  have bw:V.heap.size<=I:=by
   obtain ⟨_,xs,O,_⟩:=N.out;exact (O.at_ rfl).1
  have x6:Blk J w.heap.size 26 _:=Z.2 _ _ _ _ x4 (.inl (by decide));have z6:Blk J (w.heap.size+1+1) 26 _:=Z.2 _ _ _ _ Q (.inl (by decide));have q6:Below w.heap.size w J:=q4.grown X (by omega) (fun y h=>by injection h with h;omega);have aC:=Qh (show LkY 130 J A2 n c2 (some ⟨I,0,none⟩) (p-1) d2 D2 q f2 (Co L k) from nA (ao.out.tch Z (by decide) (fun _ _ y=>y.tch Z (by decide))) R6 (a5.out.tch Z (by decide) (fun _ _ y=>y)) bg.out);have x7:=x6.set_at 2 (.slice (some ⟨I,0,none⟩) (p-1) d2) #[aa L.name,.slice A2 n c2,.slice (some ⟨I,0,none⟩) (p-1) d2,.slice D2 q f2] rfl;have t7:Tch (bi 26) J (J.setCell ⟨w.heap.size,2,none⟩ (.slice (some ⟨I,0,none⟩) (p-1) d2)):=Tch.set x6 (by simp [bi]) rfl 2 _;have z7:Blk (J.setCell ⟨w.heap.size,2,none⟩ (.slice (some ⟨I,0,none⟩) (p-1) d2)) (w.heap.size+1+1) 26 #[.string ⟨#[]⟩,.slice none 0 0,.slice none 0 0,.slice none 0 0]:=z6.far (p:=⟨w.heap.size,2,none⟩) (by show w.heap.size+1+1≠w.heap.size;omega) _;have q7:Below w.heap.size w (J.setCell ⟨w.heap.size,2,none⟩ (.slice (some ⟨I,0,none⟩) (p-1) d2)):=q6.setCell (p:=⟨w.heap.size,2,none⟩) Qr _;have HE:=Qh (lq (L:=Co L k) (x:=0) aO z7 ⟨rfl,rfl,rfl,rfl⟩ (aC.out.tch t7 (by decide) (by decide) (by decide) (by decide)) q7 (show w.heap.size<=w.heap.size+1+1 by omega));obtain ⟨a0,a1,a2,a3⟩:=x6.c4;obtain ⟨g0,g1,g2,g3⟩:=x6.f4;obtain ⟨b0,b1,b2,b3⟩:=z6.c4;obtain ⟨f0,f1,M,f3⟩:=z6.f4;have bz:=x6.lt;have bx:=z6.lt;clear N ao a6 a5 R6 x6 z6 x7 z7 q7 q6 Z t7 X aC x4 Q q4;go_wp2_with fail;refine bodyPost_ret (v:=.tuple #[.agg #[aa L.name,.slice A2 n c2,.slice (some ⟨I,0,none⟩) (p-1) d2,.slice D2 q f2],.nilIface]) (by simp [results,Tryz.results15,go_sem, *] <;> trivial) rfl ?_;rw [G.out.1,G.out.2];exact HE.out
 rw [B] at i;rw [ht] at z;have E:=Qh P;clear P HR;go_wp2_with fail;refine (zT F D2 q f2 L.drivers u.out.dr.drs (by omega) (w.heap.size+1) ed.name s).mono ?_;rintro e' w4 ⟨rfl,b⟩;have x4:=x3.below b x3.lt;have Q:=l.below b l.lt;have q4:=q3.trans (b.mono q3.size);have H:=Qh (u.out.tch (T:=fun _=>false) (Tch.below b) rfl rfl rfl rfl);have bn:=b.size;clear i s z c0 c1 K c3 x3 Y l q3 b U W;rcases E.out with ⟨hi,o,m⟩ | ⟨k,aT,hi,o,m⟩
 ·rw [hi]
  have G:=Qh (And.intro o m);clear o m hi;obtain ⟨b0,b1,b2,b3⟩:=Q.c4;obtain ⟨f0,f1,M,f3⟩:=Q.f4;go_wp2_with fail;refine bodyPost_ret (v:=.tuple #[.agg #[.string ⟨#[]⟩,.slice none 0 0,.slice none 0 0,.slice none 0 0],.iface 58 (.int .i64 5)]) (by simp [results,Tryz.results15,go_sem, *] <;> trivial) rfl ?_;rw [G.out.2];exact gi (by rw [G.out.1];exact eVp (by decide)) q4 (by omega)
 rw [hi];have bu:k<q:=by rw [<- H.out.dr.1];exact aT
 have G:=Qh (And.intro o m);obtain ⟨I,eA⟩:=H.out.dr.some_ (List.getElem?_eq_getElem aT);have j:=H.out;rw [eA] at j;have N:=Qh j.dr;have ao:=Qh j.bd.row;have a6:=Qh j.jt;have a5:=Qh j.dr;have bg:=Qh j.nm;rw [eA] at x4;clear o m hi E H u j;obtain ⟨a0,a1,a2,a3⟩:=x4.c4;have bY:((k:Int)<0)=False:=by simp
 go_wp2_with fail;clear a0 a1 a2 a3;refine (zP w4 V.heap.size I q f2 k L.drivers N.out (fun w cs a h=>h.ones) (by omega) (by omega) (fun w' cs a t h=>h.any)).mono ?_;rintro e' J ⟨rfl,R6,X⟩
 have Z:Tch (bi 86) w4 J:=by
  obtain ⟨_,xs,O,_⟩:=N.out;exact Tch.grown (fun _ hu=>hu) (by simp [bi]) O X
 have bw:V.heap.size<=I:=by
  obtain ⟨_,xs,O,_⟩:=N.out;exact (O.at_ rfl).1
 have x6:Blk J w.heap.size 26 _:=Z.2 _ _ _ _ x4 (.inl (by decide));have z6:Blk J (w.heap.size+1+1) 26 _:=Z.2 _ _ _ _ Q (.inl (by decide));have q6:Below w.heap.size w J:=q4.grown X (by omega) (fun y h=>by injection h with h;omega);have aC:=Qh (show LkY 130 J A2 n c2 C2 p d2 (some ⟨I,0,none⟩) (q-1) f2 (Cp L k) from nA (ao.out.tch Z (by decide) (fun _ _ y=>y.tch Z (by decide))) (a6.out.tch Z (by decide) (fun _ _ y=>y)) R6 bg.out);have x7:=x6.set_at 3 (.slice (some ⟨I,0,none⟩) (q-1) f2) #[aa L.name,.slice A2 n c2,.slice C2 p d2,.slice (some ⟨I,0,none⟩) (q-1) f2] rfl;have t7:Tch (bi 26) J (J.setCell ⟨w.heap.size,3,none⟩ (.slice (some ⟨I,0,none⟩) (q-1) f2)):=Tch.set x6 (by simp [bi]) rfl 3 _;have z7:Blk (J.setCell ⟨w.heap.size,3,none⟩ (.slice (some ⟨I,0,none⟩) (q-1) f2)) (w.heap.size+1+1) 26 #[.string ⟨#[]⟩,.slice none 0 0,.slice none 0 0,.slice none 0 0]:=z6.far (p:=⟨w.heap.size,3,none⟩) (by show w.heap.size+1+1≠w.heap.size;omega) _;have q7:Below w.heap.size w (J.setCell ⟨w.heap.size,3,none⟩ (.slice (some ⟨I,0,none⟩) (q-1) f2)):=q6.setCell (p:=⟨w.heap.size,3,none⟩) Qr _;have HE:=Qh (lq (L:=Cp L k) (x:=0) aO z7 ⟨rfl,rfl,rfl,rfl⟩ (aC.out.tch t7 (by decide) (by decide) (by decide) (by decide)) q7 (show w.heap.size<=w.heap.size+1+1 by omega));obtain ⟨a0,a1,a2,a3⟩:=x6.c4;obtain ⟨g0,g1,g2,g3⟩:=x6.f4;obtain ⟨b0,b1,b2,b3⟩:=z6.c4;obtain ⟨f0,f1,M,f3⟩:=z6.f4;have bz:=x6.lt;have bx:=z6.lt;clear N ao a6 a5 R6 x6 z6 x7 z7 q7 q6 Z t7 X aC x4 Q q4;go_wp2_with fail;refine bodyPost_ret (v:=.tuple #[.agg #[aa L.name,.slice A2 n c2,.slice C2 p d2,.slice (some ⟨I,0,none⟩) (q-1) f2],.nilIface]) (by simp [results,Tryz.results15,go_sem, *] <;> trivial) rfl ?_;rw [G.out.1,G.out.2];exact HE.out
def Ef (ed:bL):Prop:=ed.name.length<=4000/\ed.text.length<=4000
structure nD (l:ag) (m:Nat) (g:gc):Prop where
  len:g.before.length=g.done.length
  inv:∀ L∈g.before++[g.now],tI L
  st:(g.before++[g.now])[0]?=some l
  ch:∀ (i:Nat) a b ed,(g.before++[g.now])[i]?=some a->(g.before++[g.now])[i+1]?=some b->g.done[i]?=some ed->ApC a ed 0 b
  sm:∀ ed∈g.done++g.undone,Ef ed
  nl:g.done.length+g.undone.length<=m
theorem nD.new {l:ag}(h:tI l):nD l 0 ⟨l,[],[],[]⟩:=⟨rfl,fun L c=>by simp at c;rw [c];exact h,rfl,fun i a b ed _ d _=>by simp at d,fun ed h=>by simp at h,Qr⟩
theorem nD.more {l:ag}{m k:Nat}{g:gc}(h:nD l m g) (a:m<=k):nD l k g:=⟨h.len,h.inv,h.st,h.ch,h.sm,Nat.le_trans h.nl a⟩
theorem nD.add {l j:ag}{m k:Nat}{g:gc}{ed:bL}{un:List bL}(h:nD l m g) (v:ApC g.now ed 0 j) (r:tI j) (t:Ef ed) (s:∀ x∈un,Ef x) (u:g.done.length+1+un.length<=k):nD l k ⟨j,g.before++[g.now],g.done++[ed],un⟩:=by
 have p:=h.len;refine ⟨by simp [p],fun L w=>?_,?_,fun i a b e f hb c=>?_,fun e c=>?_,by simp only [List.length_append,List.length_singleton];exact u⟩
 ·rcases List.mem_append.1 w with d | d
  ·exact h.inv L d
  simp at d;rw [d];exact r
 ·show ((g.before++[g.now])++[j])[0]?=some l
  rw [List.getElem?_append_left (by simp)];exact h.st
 ·have f:((g.before++[g.now])++[j])[i]?=some a:=f
  have hb:((g.before++[g.now])++[j])[i+1]?=some b:=hb;have c:(g.done++[ed])[i]?=some e:=c;rcases Nat.lt_or_ge i g.done.length with q | q
  ·rw [List.getElem?_append_left (by simp;omega)] at f hb
   rw [List.getElem?_append_left q] at c;exact h.ch i a b e f hb c
  ·have o:i=g.done.length:=by
    have:=(List.getElem?_eq_some_iff.1 c).1;simp at this;omega
   subst o;rw [List.getElem?_append_left (by simp;omega),List.getElem?_append_right (by omega)] at f;rw [List.getElem?_append_right (by simp;omega)] at hb;rw [List.getElem?_append_right Qr] at c;simp [p] at f hb c;subst f hb c;exact v
 rcases List.mem_append.1 c with d | d
 ·rcases List.mem_append.1 d with n | n
  ·exact h.sm e (List.mem_append_left _ n)
  simp at n;rw [n];exact t
 exact s e d
theorem nD.cut {l f:ag}{m k:Nat}{g:gc}{p:bL}(h:nD l m g) (u:g.done.length=k+1) (n:g.before[k]?=some f) (s:g.done[k]?=some p):nD l m ⟨f,g.before.take k,g.done.take k,g.undone++[p]⟩:=by
 have t:=h.len
 have hb:g.before.take k++[f]=g.before:=by
  have:=List.take_add_one (l:=g.before) (i:=k);rw [n] at this;rw [show [f]=(some f).toList from rfl,<- this];exact List.take_of_length_le (by omega)
 have r:∀ (i:Nat) (a:ag),g.before[i]?=some a->(g.before++[g.now])[i]?=some a:=fun i a j=>by
  rw [List.getElem?_append_left (List.getElem?_eq_some_iff.1 j).1];exact j
 have v:k<g.before.length:=by omega
 refine ⟨by simp;omega,fun L n=>?_,?_,fun i a b e j d c=>?_,fun e c=>?_,by simp;have:=h.nl;omega⟩
 ·have n:L∈g.before.take k++[f]:=n
  rw [hb] at n;exact h.inv L (List.mem_append_left _ n)
 ·show (g.before.take k++[f])[0]?=some l
  rw [hb];have:=h.st;rw [List.getElem?_append_left (by omega)] at this;exact this
 ·have j:(g.before.take k++[f])[i]?=some a:=j
  have d:(g.before.take k++[f])[i+1]?=some b:=d;have c:(g.done.take k)[i]?=some e:=c;rw [hb] at j d;rw [List.getElem?_take] at c;split at c
  ·exact h.ch i a b e (r _ _ j) (r _ _ d) c
  cases c
 rcases List.mem_append.1 c with q | q
 ·exact h.sm e (List.mem_append_left _ (List.mem_of_mem_take q))
 rcases List.mem_append.1 q with o | o
 ·exact h.sm e (List.mem_append_right _ o)
 simp at o;rw [o];exact h.sm p (List.mem_append_left _ (List.mem_of_getElem? s))
structure uX where
  what:Int
  ed:bL
theorem sC:ApC frL crE 0 nY:=nC frL qo crE (by decide) 0 nY (.add rfl rfl Ci Cj)
theorem Ft (s a b c:Value) (w:World):(Instr.field 26 (.agg #[s,a,b,c]) 1).run Tryz.prog w=.ok a w:=by kernel_rfl
theorem Fu (s a b c:Value) (w:World):(Instr.field 26 (.agg #[s,a,b,c]) 2).run Tryz.prog w=.ok b w:=by kernel_rfl
theorem jf (w:World) (b:Tab w) (D:Mx w):Calls Tryz.prog 8 #[] w (ax w (.bool true)):=by
 have c:=Qh b;have R:=Qh D;have ac:=Ft;have ab:=Fu;clear b D;go_in;go_wp2_with fail;refine (Ck w).mono ?_;rintro a w1 ⟨g1,rfl,W,H⟩;have q1:=H;go_wp2_with fail;refine (Fo (fun x=>x<w.heap.size) w.heap.size w1 (some ⟨g1,0,none⟩) 1 1 none 0 0 none 0 0 frL (W.upto (by decide)) qo q1.size (fun x hx=>Nat.lt_of_lt_of_le hx q1.size)).mono ?_;rintro a w2 ⟨l,rfl,y,v⟩;have q2:=q1.trans (v.mono q1.size);clear W H q1 v;go_wp2_with fail;refine (uV w2).mono ?_;rintro a w3 ⟨rfl,i⟩;have A:=y.blw i;have q3:=q2.trans (i.mono q2.size);clear y q2 i;go_wp2_with fail;refine (FY _ _ w3 l _ A crE 0 nY sC (by decide) (c.out.belw q3) (R.out.belw q3)).mono ?_;rintro a w4 ⟨rfl,_,V⟩;rw [aO];obtain ⟨Z,k⟩:=V rfl;have Q:=q3.trans Z.bel;clear A q3 Z V;go_wp2_with fail;refine (zL _ _ w4 l _ k (jD kC)).mono ?_;rintro a w5 ⟨A5,n5,c5,C5,p5,d5,D5,k5,f5,rfl,r,m⟩;obtain rfl:2=n5:=r.len.1;have q:=k.blw m;have X:=Q.trans (m.mono Q.size);clear k Q m r;go_wp2_with fail;refine (DU _ _ w5 l _ q 0 rfl frL rfl crE rfl (by decide) (by decide)).mono ?_;rintro a w6 ⟨rfl,_,h6⟩;rw [aO];obtain ⟨S,o⟩:=h6 rfl;have P:=X.trans S.bel;clear q X S h6;go_wp2_with fail;refine (zL _ _ w6 l _ o (jD qo)).mono ?_;rintro a w7 ⟨A7,n7,c7,C7,p7,d7,D7,k7,f7,rfl,F,n⟩;obtain rfl:1=n7:=F.len.1;have B:=o.blw n;have J:=P.trans (n.mono P.size);clear o P n F;go_wp2_with fail;refine (DY _ _ w7 l _ B 0 rfl crE rfl 0 nY sC (by decide) (by decide) (c.out.belw J) (R.out.belw J)).mono ?_;rintro a w8 ⟨rfl,_,Y⟩;rw [aO];obtain ⟨r8,f⟩:=Y rfl;have N:=J.trans r8.bel;clear B J r8 Y;go_wp2_with fail;refine (zL _ _ w8 l _ f (jD kC)).mono ?_;rintro a w9 ⟨A9,n9,c9,C9,p9,d9,D9,k9,f9,rfl,E,g⟩;obtain rfl:1=p9:=E.len.2.1;have z:=f.blw g;have L:=N.trans (g.mono N.size);clear f N g E;go_wp2_with fail;refine (DX _ _ w9 l _ z (by decide)).mono ?_;rintro a wa ⟨T,U,rfl,t,G⟩;have M:=L.trans (G.mono L.size);clear z L G;go_wp2_with fail;refine (uV wa).mono ?_;rintro a C ⟨rfl,d⟩;have O:=M.trans (d.mono M.size);have u:=t.ed d;clear t M d;go_wp2_with fail;have K:=(ae C).alloc Qr (.cells #[.int .i64 crE.kind,aa crE.name,aa crE.text] 39);have p:=Blk.new C 39 #[.int .i64 crE.kind,aa crE.name,aa crE.text];have j:SlS jz 3 _ T 1 U [crE]:=u.ed K;have I:=O.trans (K.mono O.size);have h:SlS jz 3 _ (some ⟨C.heap.size,0,none⟩) 1 1 [crE]:=E4 p.lt ⟨p.cell 0,p.cell 1,p.cell 2⟩;generalize (C.alloc (.cells #[.int .i64 crE.kind,aa crE.name,aa crE.text] 39))=wc at p j I h K ⊢;refine (zM wc T 1 U [crE] j (some ⟨C.heap.size,0,none⟩) 1 h (by decide)).mono ?_;rintro a wd ⟨rfl,s⟩;have qe:=I.trans (s.mono I.size);clear u j h p K O I s;go_wp2;go_ret;exact ⟨rfl,qe⟩
def sD (m:MarkL):Bool:=decide (20<m.x.num.length+m.x.den.length+m.y.num.length+m.y.den.length)
def qq (b:BodyL):Bool:=decide (40<b.pts.length)||b.pts.any sD
def sE (L:ag):Bool:=decide (40<L.bodies.length)||decide (60<L.joints.length)||decide (40<L.drivers.length)||L.bodies.any qq
theorem uY {L:ag}(h:sE L=false):lgL L=false:=by
 unfold sE at h;unfold lgL;simp only [Bool.or_eq_false_iff] at h ⊢;refine ⟨h.1,List.any_eq_false.2 fun b hb=>?_⟩;have a:qq b=false:=by simpa using List.any_eq_false.1 h.2 b hb
 unfold qq at a;rw [Bool.or_eq_false_iff] at a
 have f:lgB b=false:=by
  unfold lgB;rw [Bool.or_eq_false_iff];refine ⟨a.1,List.any_eq_false.2 fun m d=>?_⟩;have c:sD m=false:=by simpa using List.any_eq_false.1 a.2 m d
  unfold sD at c;simp at c;simp [lgM];omega
 simpa using f
theorem wW (w:World) (A:Option Addr) (n c:Nat) (B:Option Addr) (p d:Nat) (C:Option Addr) (q e:Nat) (L:ag) (h:LkS reachBytes w A n c B p d C q e L) (v:Bool) (hv:sE L=v) :
 Calls Tryz.prog 9 #[.agg #[aa L.name,.slice A n c,.slice B p d,.slice C q e]] w (ax w (.bool v)):=by
 have S:=Qh hv;have G:=Qh (And.intro h.bodies.1 (And.intro h.joints.1 h.drivers.1));have a1:=h.bodies.2.1;have H:=Qh h;clear h hv;go_in;by_cases ha:40<n
 ·have fa:((40:Int)<(n:Int))=True:=eq_true (by omega)
  have a:v=true:=by rw [<- S.out];unfold sE;rw [G.out.1,decide_eq_true ha];rfl
  subst a;go_wp2;go_ret;exact ⟨rfl,(ae w).alloc Qr _⟩
 have fa:((40:Int)<(n:Int))=False:=eq_false (by omega);by_cases hb:60<p
 ·have fb:((60:Int)<(p:Int))=True:=eq_true (by omega)
  have a:v=true:=by rw [<- S.out];unfold sE;rw [G.out.2.1,decide_eq_true hb,Bool.or_true];rfl
  subst a;go_wp2;go_ret;exact ⟨rfl,(ae w).alloc Qr _⟩
 have fb:((60:Int)<(p:Int))=False:=eq_false (by omega);by_cases hc:40<q
 ·have fc:((40:Int)<(q:Int))=True:=eq_true (by omega)
  have a:v=true:=by rw [<- S.out];unfold sE;rw [G.out.2.2,decide_eq_true hc,Bool.or_true];rfl
  subst a;go_wp2;go_ret;exact ⟨rfl,(ae w).alloc Qr _⟩
 have fc:((40:Int)<(q:Int))=False:=eq_false (by omega);have F:Hid (L.bodies.any qq=v):=Qh (by rw [<- S.out];unfold sE;rw [G.out.1,G.out.2.1,G.out.2.2,decide_eq_false ha,decide_eq_false hb,decide_eq_false hc];rfl);clear S;go_wp2_with fail;go_loopw [3] (fun iv wr=>∃ i:Nat,iv=.int .i64 (i:Nat)/\i<=n/\Hid ((L.bodies.take i).any qq=false)/\Blk wr w.heap.size 26 #[aa L.name,.slice A n c,.slice B p d,.slice C q e]/\Below w.heap.size w wr) (fun iv _=>n-(intOf iv).toNat)
 case atStart=>exact ⟨0,rfl,Nat.zero_le _,Qh rfl,ak _ _ _ (by simp),(ae w).alloc Qr _⟩
 case round =>
  obtain ⟨i,rfl,hi,HI,U,r⟩:=hrel;rename World=>wa;have a0:w.heap.size<wa.heap.size:=U.lt;have cL:=U.cell 1;rcases Nat.lt_or_ge i n with ad | ab
  ·have ac:((i:Int)<(n:Int))=True:=by simp;omega
   obtain ⟨g,o,b,O,hg,_,E,hB⟩:=(H.out.bodies.bd r).at_ ad;subst O;obtain ⟨A',y,c',c0,c1,D,a2⟩:=hB;have aT:=D.2.1;have X:=Qh D;have K:=Qh E;by_cases hp4:40<y
   ·have fp:((40:Int)<(y:Int))=True:=eq_true (by omega)
    have a:v=true:=by rw [<- F.out];exact j6 K.out (by unfold qq;rw [D.1,decide_eq_true hp4];rfl)
    subst a;clear D E;go_wp2;go_ret;exact ⟨rfl,r⟩
   have fp:((40:Int)<(y:Int))=False:=eq_false (by omega);clear D E;go_wp2_with fail;clear cL c0;go_loopw [4] (fun jv w2=>∃ j:Nat,jv=.int .i64 (j:Nat)/\j<=y/\Hid ((b.pts.take j).any sD=false)/\Below wa.heap.size wa w2) (fun jv _=>y-(intOf jv).toNat)
   case atStart=>exact ⟨0,rfl,Nat.zero_le _,Qh rfl,ae wa⟩
   case round =>
    obtain ⟨j,rfl,hj,HJ,f⟩:=hrel;rename World=>wb;have I:=U.below f U.lt;have aS:w.heap.size<wb.heap.size:=I.lt;have a5:=I.cell 1;have J:=r.trans (f.mono r.size);have c1:=ai c1 f;rcases Nat.lt_or_ge j y with Z | aC
    ·have al:((j:Int)<(y:Int))=True:=by simp;omega
     obtain ⟨T,V,m,O,a3,_,Q,D⟩:=(X.out.mk_ f).at_ Z;subst O;have P:=Qh Q;obtain ⟨d0,⟨b1,A1,t,an,D1,s,O,d1,d2,d3,l⟩,⟨b2,A2,z,c2,D2,M,e2,d4,d5,d6,k⟩,a4⟩:=D;have d2:wb.cell? ⟨T,V+j*7+2,none⟩=some (.slice A1 t an):=d2;have d3:wb.cell? ⟨T,V+j*7+3,none⟩=some (.slice D1 s O):=d3;have d5:wb.cell? ⟨T,V+j*7+5,none⟩=some (.slice A2 z c2):=d5;have d6:wb.cell? ⟨T,V+j*7+6,none⟩=some (.slice D2 M e2):=d6;have x:=Qh (And.intro l.2.1.2.1 (And.intro l.2.2.1.2.1 (And.intro k.2.1.2.1 k.2.2.1.2.1)));have s1:=uI l.2.2.2.1;have s2:=uI l.2.2.2.2;have s3:=uI k.2.2.2.1;have s4:=uI k.2.2.2.2;have a6:g<wb.heap.size:=by have:=f.size;omega
     have u1:IntKind.i64.wrap ((t:Int)+(s:Int))=(t:Int)+(s:Int):=wrap_i64 (by omega) (by omega);have u2:IntKind.i64.wrap ((t:Int)+(s:Int)+(z:Int))=(t:Int)+(s:Int)+(z:Int):=wrap_i64 (by omega) (by omega);have u3:IntKind.i64.wrap ((t:Int)+(s:Int)+(z:Int)+(M:Int))=(t:Int)+(s:Int)+(z:Int)+(M:Int):=wrap_i64 (by omega) (by omega);clear Q l k;by_cases h40:20<t+s+z+M
     ·have f4:((20:Int)<(t:Int)+(s:Int)+(z:Int)+(M:Int))=True:=eq_true (by omega)
      have u:sD m=true:=by unfold sD;rw [<- x.out.1,<- x.out.2.1,<- x.out.2.2.1,<- x.out.2.2.2];exact decide_eq_true h40
      have a:v=true:=by rw [<- F.out];exact j6 K.out (by unfold qq;rw [j6 P.out u,Bool.or_true])
      subst a;clear s1 s2 s3 s4;go_wp2;go_ret;exact ⟨rfl,J.alloc (by have:=J.size;omega) _⟩
     have f4:((20:Int)<(t:Int)+(s:Int)+(z:Int)+(M:Int))=False:=eq_false (by omega);have u:sD m=false:=by unfold sD;rw [<- x.out.1,<- x.out.2.1,<- x.out.2.2.1,<- x.out.2.2.2];exact decide_eq_false h40
     have ao:=Qh (j5 P.out HJ.out u);clear u s1 s2 s3 s4;go_wp2_with fail;go_roundw
     case rel=>exact ⟨j+1,by go_num,by omega,ao,f.alloc f.size _⟩
     case measure=>simp [intOf];omega
    have al:((j:Int)<(y:Int))=False:=by simp;omega
    have N:b.pts.take j=b.pts:=List.take_of_length_le (by rw [X.out.1];exact aC);rw [N] at HJ;have W:=Qh (j5 K.out HI.out (by unfold qq;rw [X.out.1,decide_eq_false hp4,HJ.out];rfl:qq b=false));clear N;go_wp2_with fail;go_roundw
    case rel=>exact ⟨i+1,by go_num,by omega,W,I,J⟩
    case measure=>simp [intOf];omega
  have ac:((i:Int)<(n:Int))=False:=by simp;omega
  have R:L.bodies.take i=L.bodies:=List.take_of_length_le (by rw [G.out.1];exact ab);rw [R] at HI;have Y:v=false:=by rw [<- F.out];exact HI.out
  subst Y;clear R;go_wp2;go_ret;exact ⟨rfl,r⟩
/-! Steps. -/
def wX (w:World) (g o:Nat) (s:uX):Prop:=w.cell? ⟨g,o,none⟩=some (.int .i64 s.what)/\w.cell? ⟨g,o+1,none⟩=some (.int .i64 s.ed.kind)/\w.cell? ⟨g,o+2,none⟩=some (aa s.ed.name)/\w.cell? ⟨g,o+3,none⟩=some (aa s.ed.text)/\s.ed.name.length<=reachBytes/\s.ed.text.length<=reachBytes
theorem wX.belw {w a:World}{g o:Nat}{s:uX}(h:wX w g o s) (hb:Below w.heap.size w a):wX a g o s:=⟨ai h.1 hb,ai h.2.1 hb,ai h.2.2.1 hb,ai h.2.2.2.1 hb,h.2.2.2.2⟩
theorem SlS.st {w a:World}{A:Option Addr}{n c:Nat}{l:List uX}(h:SlS wX 4 w A n c l) (hb:Below w.heap.size w a):SlS wX 4 a A n c l:=h.belw (fun _ _ _ h=>h.belw hb) hb
/-! A body that is added. -/
def nbL (nm:List UInt8):BodyL:=⟨nm,[⟨[79],rd 0,rd 0⟩]⟩
def adL (L:ag) (nm:List UInt8):ag:=⟨L.name,L.bodies++[nbL nm],L.joints,L.drivers⟩
theorem uZ (nm:List UInt8):bK (nbL nm)=[98,111,100,121,32]++nm++[32,123,32,79,32,48,32,48,59,32,125]:=by
 have e:am 0=[48]:=by decide +kernel
 unfold bK nbL;simp only [List.flatMap_cons,List.flatMap_nil,bB,xA,e];simp
theorem rd0:rd 0=⟨false,[],[]⟩:=by unfold rd;simp [ap]
theorem qr (nm:List UInt8):∀ m∈(nbL nm).pts,MkN m/\MkF m/\MkW m:=by
 intro m b;have e:m=⟨[79],rd 0,rd 0⟩:=by simpa [nbL] using b
 subst e;have c:am 0=[48]:=by decide +kernel
 have a:RdW (rd 0):=by rw [rd0];exact ⟨fun x h=>(List.not_mem_nil h).elim,fun x h=>(List.not_mem_nil h).elim⟩
 exact ⟨by unfold MkN;simp only [xA,c];decide,⟨by decide,mf 0,mf 0⟩,a,a⟩
theorem Au {L:ag}(a:LkF L) (c:fm L.bodies≠true) {s:List UInt8}{K:List (Nat × List UInt8)}(h:Spl s K):Spl (bX L++s) (fh L++K):=by
 have hN:=ni c;unfold bX fh mS;simp only [List.cons_append,List.append_assoc,List.nil_append];have o:=Spl.list (f:=bq L.bodies) (g:=dM L.bodies) (l:=L.drivers) h fun d hd s K h=>Spl.driver a.body (a.driver d hd) (a.ok.driver d hd) h
 have n:=Spl.list (f:=aW L.bodies) (g:=fH L.bodies) (l:=L.joints) o fun j k s K h=>Spl.joint a.body (a.joint j k) (a.ok.joint j k) h
 have p:=Spl.list (f:=bQ) (g:=fg) (l:=L.bodies) n fun b hb s K h=>by
  unfold bQ;rw [List.append_assoc];exact Spl.body (a.body b hb).name (fun m i=>⟨((a.body b hb).pts m i).name,hN b hb m i⟩) (.line h)
 exact Spl.word (x:=aP) (by decide) (gh (by decide)) (.blank (.word a.name (gh (by decide)) (.sign (by decide) (.line p))))
theorem Av {l:List Tkn}{L:ag}{b0:BodyL}(t:kt l=fh L++fg b0) (c:LkF L) (z:LkW L) (n:fm L.bodies≠true) (f:∀ m∈b0.pts,MkN m/\MkF m/\MkW m):(cE l).x=0/\(cE l).L=⟨L.name,L.bodies++[b0],L.joints,L.drivers⟩:=by
 have hN:=ni n;have o:AtK (⟨l,L0,0⟩:PS) (fh L++fg b0) L0:=⟨rfl,t,rfl⟩;unfold fh at o;simp only [List.cons_append] at o;obtain ⟨A,p⟩:=o.expect.word;unfold cE;simp only
 have y:AtK ({ (((⟨l,L0,0⟩:PS).expect 0 aP).word.2) with L:={ (((⟨l,L0,0⟩:PS).expect 0 aP).word.2).L with name:=(((⟨l,L0,0⟩:PS).expect 0 aP).word.1) } }:PS) ((2,[59])::(L.bodies.flatMap fg++(L.joints.flatMap (fH L.bodies)++L.drivers.flatMap (dM L.bodies))++fg b0)) ⟨L.name,[],[],[]⟩:=⟨p.x,p.k,by
  show ({ (((⟨l,L0,0⟩:PS).expect 0 aP).word.2).L with name:=(((⟨l,L0,0⟩:PS).expect 0 aP).word.1) }:ag)=_
  rw [p.l,A];rfl⟩
 have i:=y.expect
 have v:(({ (((⟨l,L0,0⟩:PS).expect 0 aP).word.2) with L:={ (((⟨l,L0,0⟩:PS).expect 0 aP).word.2).L with name:=(((⟨l,L0,0⟩:PS).expect 0 aP).word.1) } }:PS).expect 2 [59]).toks.length<l.length+1:=by
  have w:=congrArg List.length i.k;have r:=congrArg List.length t;unfold fh at r;rw [nq] at w r;rw [w,r];simp only [List.length_cons,List.length_append];omega
 generalize ({ (((⟨l,L0,0⟩:PS).expect 0 aP).word.2) with L:={ (((⟨l,L0,0⟩:PS).expect 0 aP).word.2).L with name:=(((⟨l,L0,0⟩:PS).expect 0 aP).word.1) } }:PS).expect 2 [59]=s at i v ⊢;simp only [List.append_assoc] at i
 have key:fI s ⟨L.name,L.bodies++[b0],L.joints,L.drivers⟩:=by
  refine fI.list (g:=fg) (fun M b=>{ M with bodies:=M.bodies++[b] }) (fun _=>True) L.bodies s _ (fun b _=>⟨_,_,rfl⟩) (fun b hb s K M _ h=>⟨AtK.bodyI (fun m q=>⟨hN b hb m q,(c.body b hb).pts m q,z b hb m q⟩) h,trivial⟩) trivial (fun s h _=>?_) i;rw [zW,List.nil_append] at h;refine fI.list (g:=fH L.bodies) (fun M b=>{ M with joints:=M.joints++[b] }) (fun M=>M.bodies=L.bodies) L.joints s ⟨L.name,L.bodies,[],[]⟩ (fun b _=>⟨_,_,rfl⟩) (fun j B s K M a h=>⟨?_,a⟩) rfl (fun s h a=>?_) h
  ·rw [<- a] at h
   exact AtK.joint (by rw [a];exact c.body) (by rw [a];exact c.dist) (by rw [a];exact c.ok.joint j B) h
  rw [zX,List.nil_append] at h;refine fI.list (g:=dM L.bodies) (fun M b=>{ M with drivers:=M.drivers++[b] }) (fun M=>M.bodies=L.bodies) L.drivers s ⟨L.name,L.bodies,L.joints,[]⟩ (fun b _=>⟨_,_,rfl⟩) (fun d hd s K M a h=>⟨?_,a⟩) rfl (fun s h _=>?_) h
  ·rw [<- a] at h
   exact AtK.driver (by rw [a];exact c.dist) (by rw [a];exact c.ok.driver d hd) h
  rw [zY,List.nil_append] at h;have u:AtK s (fg b0++[]) ⟨L.name,L.bodies,L.joints,L.drivers⟩:=by rw [List.append_nil];exact h
  exact fI.step h (AtK.bodyI f u) (fI.nil (AtK.bodyI f u))
 exact key _ v
theorem Cq {L M:ag}{nm:List UInt8}(a:cg L=0) (t:LkW L) (u:dk (bX L++32::bK (nbL nm)) 0 M) (r:aQ nm=true):M=adL L nm:=by
 have j:aG L=0:=by
  unfold cg at a;split at a
  ·exact a
  rename_i d;simpa using d
 have f:fm L.bodies≠true:=by
  unfold cg at a;split at a
  ·rename_i d;exact absurd a d
  split at a
  ·cases a
  rename_i d;exact fun v=>d (.inl v)
 have p:=bI j
 have k:Spl (32::bK (nbL nm)) (fg (nbL nm)):=by
  have:=Spl.body (b:=nbL nm) r (fun m o=>⟨((qr nm m o).2.1).name,(qr nm m o).1⟩) Spl.nil;simpa using Spl.blank this
 rcases u with ⟨_,_,c,_⟩ | ⟨_,_,_,c,_⟩ | ⟨_,_,_,_,c,_⟩ | ⟨l,n,_,_,_,q⟩
 ·exact absurd rfl c
 ·exact absurd rfl c
 ·exact absurd rfl c
 ·have g:(bX L++32::bK (nbL nm)).length<=65536:=by
   rcases n with ⟨_,c,_⟩ | ⟨h,_,_⟩ | ⟨_,h,_⟩
   ·cases c
   ·exact h
   exact h
  obtain ⟨w,i,s⟩:=(Au p f k).out g;obtain ⟨_,rfl⟩:=n.uniq i;rw [q];exact (Av s p t f (qr nm)).2
theorem Aw {L:ag}{nm:List UInt8}(v:aG L=0) (s:aG (adL L nm)=0):qp (adL L nm) nm 0 L:=by
 have n:=bI v;have w:=bI s;have l:(adL L nm).bodies.length=L.bodies.length+1:=by simp [adL]
 have i:(adL L nm).bodies[L.bodies.length]?=some (nbL nm):=by simp [adL]
 have c:∀ {x:Int}{a:Nat},x=(a:Nat)->a<L.bodies.length->shI L.bodies.length x=x/\x≠(L.bodies.length:Nat):=fun {x a} e h=>by
  unfold shI;rw [if_neg (by omega)];exact ⟨rfl,by omega⟩
 have r:∀ j∈L.joints,shJ L.bodies.length j=j/\j.a≠(L.bodies.length:Nat)/\j.b≠(L.bodies.length:Nat):=fun j f=>by
  obtain ⟨_,a,b,_,_,_,_,_,_,o,u,_,_,g,hb,_⟩:=n.ok.joint j f;have k:=c o (List.getElem?_eq_some_iff.1 g).1;have p:=c u (List.getElem?_eq_some_iff.1 hb).1;refine ⟨?_,k.2,p.2⟩;unfold shJ;rw [k.1,p.1]
 have q:∀ d∈L.drivers,shD L.bodies.length d=d/\d.body≠(L.bodies.length:Nat):=fun d hd=>by
  obtain ⟨_,a,b,o,g⟩:=n.ok.driver d hd;have k:=c o (List.getElem?_eq_some_iff.1 g).1;refine ⟨?_,k.2⟩;unfold shD;rw [k.1]
 refine .inr (.inr ⟨L.bodies.length,n.ok.b0,by rw [l];omega,?_,.inr ⟨fun j f=>(r j f).2,.inr ⟨fun d hd=>(q d hd).2,rfl,?_⟩⟩⟩)
 ·refine kw (by rw [List.getElem?_map,i];rfl) fun j f a g=>?_
  rw [List.getElem?_map] at g;obtain ⟨b,hb,e⟩:=Option.map_eq_some_iff.1 g
  have m:a≠nm:=fun h=>by
   have:=w.dist hb i (by rw [e,h];rfl);omega
  simpa using m
 unfold Cl adL
 have y:(L.bodies++[nbL nm]).eraseIdx L.bodies.length=L.bodies:=by
  rw [List.eraseIdx_append_of_length_le Qr,Nat.sub_self];simp
 have t:L.joints.map (shJ L.bodies.length)=L.joints:=by
  have:L.joints.map (shJ L.bodies.length)=L.joints.map id:=List.map_congr_left fun j f=>(r j f).1
  rw [this,List.map_id]
 have z:L.drivers.map (shD L.bodies.length)=L.drivers:=by
  have:L.drivers.map (shD L.bodies.length)=L.drivers.map id:=List.map_congr_left fun d hd=>(q d hd).1
  rw [this,List.map_id]
 simp only [y,t,z]
theorem l8 {α:Type}{f:List α->α->Int}{P:Int->Prop}(d:P 0):∀ (l c:List α),(∀ (i:Nat) a,l[i]?=some a->P (f (c++l.take i) a))->P (bt f c l)
 | [],_,_=>d
 | a::r,c,h=>by
  unfold bt;split
  ·refine l8 d r (c++[a]) fun i b hb=>?_
   have:=h (i+1) b (by simpa using hb);simpa using this
  have:=h 0 a rfl;simpa using this
theorem nF {α:Type}{l:List α}{i:Nat}{a:α}(h:l[i]?=some a):l.set i a=l:=by
 refine List.ext_getElem? fun j=>?_
 rw [List.getElem?_set];by_cases hj:i=j
 ·subst hj
  rw [if_pos rfl,if_pos (List.getElem?_eq_some_iff.1 h).1,h]
 rw [if_neg hj]
theorem kH {α β:Type}(f:α->β) {l:List α}{i k:Nat}{a b:α}(h:l[i]?=some a) (e:f b=f a):((l.set i b).take k).map f=(l.take k).map f:=by
 rw [List.map_take,List.map_take,List.map_set,e];rw [nF (by rw [List.getElem?_map,h];rfl)]
theorem qw {p a:List MarkL}{m:MarkL}(h:p.map MarkL.name=a.map MarkL.name):bc p m=bc a m:=by unfold bc;rw [h]
theorem qx {p a:List BodyL}{b:BodyL}(h:p.map BodyL.name=a.map BodyL.name):aL p b=aL a b:=by unfold aL;rw [h]
theorem wY {l:List MarkL}{j:Nat}{m:MarkL}{x y:Rat}(f:l[j]?=some m) (h:bt bc [] l=0):bt bc [] (l.set j ⟨m.name,rd x,rd y⟩)=0:=by
 refine l8 (P:=(·=0)) rfl _ _ fun k a c=>?_
 rw [List.nil_append,qw (kH MarkL.name (b:=⟨m.name,rd x,rd y⟩) f rfl)];rw [List.getElem?_set] at c;by_cases hk:j=k
 ·subst hk
  rw [if_pos rfl,if_pos (List.getElem?_eq_some_iff.1 f).1] at c;injection c with c;subst c;have d:=fo _ _ h j m f;rw [List.nil_append] at d;obtain ⟨g,i⟩:=ka d;unfold bc;rw [if_neg (by simpa using g.name),if_neg (by simpa using i),if_neg (by simp [mf]),if_neg (by simp [mf])]
 rw [if_neg hk] at c;have d:=fo _ _ h k a c;rwa [List.nil_append] at d
section
variable {L:ag}{i j:Nat}{b:BodyL}{m:MarkL}{x y:Rat}
theorem qA:(mvL L i j b m x y).bodies.length=L.bodies.length:=by unfold mvL;simp
theorem wZ (hb:L.bodies[i]?=some b) (f:b.pts[j]?=some m) (h:bt aL [] L.bodies=0):bt aL [] (mvL L i j b m x y).bodies=0:=by
 show bt aL [] (L.bodies.set i ⟨b.name,b.pts.set j ⟨m.name,rd x,rd y⟩⟩)=0;refine l8 (P:=(·=0)) rfl _ _ fun k a d=>?_
 rw [List.nil_append,qx (kH BodyL.name (b:=⟨b.name,b.pts.set j ⟨m.name,rd x,rd y⟩⟩) hb rfl)];rw [List.getElem?_set] at d;by_cases hk:i=k
 ·subst hk
  rw [if_pos rfl,if_pos (List.getElem?_eq_some_iff.1 hb).1] at d;injection d with d;subst d;have c:=fo _ _ h i b hb;rw [List.nil_append] at c;unfold aL at c ⊢;split at c
  ·omega
  rename_i g;split at c
  ·omega
  rename_i n;split at c
  ·omega
  rename_i l;rw [if_neg g,if_neg n,if_neg (by simpa using l)];exact wY f c
 rw [if_neg hk] at d;have c:=fo _ _ h k a d;rwa [List.nil_append] at c
theorem AA (hb:L.bodies[i]?=some b) (a:Int):(ci (mvL L i j b m x y) a).length=(ci L a).length:=by
 unfold ci mvL;simp only;rw [List.getElem?_set];by_cases hk:i=a.toNat
 ·rw [if_pos hk,if_pos (List.getElem?_eq_some_iff.1 hb).1,<- hk,hb]
  simp
 rw [if_neg hk]
theorem AB (hb:L.bodies[i]?=some b) {jt:aD}(h:bj L jt=0):bj (mvL L i j b m x y) jt=0\/bj (mvL L i j b m x y) jt=8:=by
 unfold bj at h ⊢;rw [qA,AA hb,AA hb];split at h
 ·omega
 rename_i k;split at h
 ·omega
 rename_i f;split at h
 ·omega
 rename_i n;split at h
 ·omega
 rename_i g;split at h
 ·omega
 rename_i l;split at h
 ·omega
 rename_i d;rw [if_neg k,if_neg f,if_neg n,if_neg g,if_neg l,if_neg d];split
 ·rename_i c
  rw [if_pos c] at h;split at h
  ·rename_i a
   rw [if_pos a];exact .inl rfl
  omega
 rename_i c;rw [if_neg c] at h;split at h
 ·omega
 rename_i a;rw [if_neg a];split
 ·exact .inr rfl
 exact .inl rfl
theorem mv_err (c:aG L=0) (hb:L.bodies[i]?=some b) (s:b.pts[j]?=some m):aG (mvL L i j b m x y)=0\/aG (mvL L i j b m x y)=8:=by
 unfold aG at c ⊢;split at c
 ·omega
 rename_i u;split at c
 ·omega
 rename_i q;split at c
 ·omega
 rename_i r;split at c
 ·rename_i p;exact absurd c p
 rename_i p;split at c
 ·omega
 rename_i w;split at c
 ·rename_i n;exact absurd c n
 rename_i n;split at c
 ·omega
 rename_i v;have l:=wZ (x:=x) (y:=y) hb s (Decidable.not_not.1 p)
 have d:bt (aK (mvL L i j b m x y)) [] L.joints=0\/bt (aK (mvL L i j b m x y)) [] L.joints=8:=by
  refine l8 (P:=fun z=>z=0\/z=8) (.inl rfl) _ _ fun k a t=>?_
  have f:=fo _ _ (Decidable.not_not.1 n) k a t;unfold aK at f ⊢;split at f
  ·omega
  rename_i g;split at f
  ·omega
  rename_i o;rw [if_neg g,if_neg o];exact AB hb f
 have hd:bt (aA (mvL L i j b m x y).bodies.length) [] (mvL L i j b m x y).drivers=0:=by rw [qA];exact c
 rw [qA,if_neg (show ¬ aQ (mvL L i j b m x y).name=false from u),if_neg q,if_neg r,if_neg (show ¬ bt aL [] (mvL L i j b m x y).bodies≠0 from fun h=>h l),if_neg (show ¬ 16<(mvL L i j b m x y).joints.length from w)];rw [qA] at hd;rcases d with d | d
 ·rw [if_neg (show ¬ bt (aK (mvL L i j b m x y)) [] (mvL L i j b m x y).joints≠0 from fun h=>h d),if_neg (show ¬ 2<(mvL L i j b m x y).drivers.length from v)]
  exact .inl hd
 have g:bt (aK (mvL L i j b m x y)) [] (mvL L i j b m x y).joints=8:=d;rw [if_pos (show bt (aK (mvL L i j b m x y)) [] (mvL L i j b m x y).joints≠0 by rw [g];decide)];exact .inr g
end
def kI:List UInt8:=[49,47,50,32,45,51]
theorem xe:cS kI=.ok [⟨1,[49,47,50],1,1⟩,⟨1,[45,51],1,5⟩]:=by kernel_rfl
theorem sF:dY [49,47,50] 0 (Rat.divInt 1 2):=.quo false [49] [50] (by decide) (by decide +kernel) ⟨by decide,by decide⟩ ⟨by decide,by decide⟩ rfl (by decide) rfl rfl
theorem AD:dY [45,51] 0 ((-3:Int):Rat):=.whole true [51] (by decide) (by decide +kernel) ⟨by decide,by decide⟩ rfl rfl rfl
section
variable {L:ag}{i j:Nat}{b:BodyL}{m:MarkL}
theorem mv_there (f:aG L=0) (hb:L.bodies[i]?=some b) (a:b.pts[j]?=some m):(nB L (du b m) kI 8 L0/\aG (mvL L i j b m (Rat.divInt 1 2) ((-3:Int):Rat))=8)\/(nB L (du b m) kI 0 (mvL L i j b m (Rat.divInt 1 2) ((-3:Int):Rat))/\aG (mvL L i j b m (Rat.divInt 1 2) ((-3:Int):Rat))=0):=by
 have c:sB L (du b m) 0 i j:=.inl ⟨rfl,b,m,hb,a,rfl⟩;have d:bh kI 0 [⟨1,[49,47,50],1,1⟩,⟨1,[45,51],1,5⟩]:=.ok (by decide) xe rfl;rcases mv_err (x:=Rat.divInt 1 2) (y:=((-3:Int):Rat)) f hb a with h | h
 ·exact .inr ⟨⟨0,i,j,c,.inr ⟨rfl,b,m,hb,a,0,_,d,.inr ⟨rfl,.inr ⟨_,_,rfl,rfl,rfl,0,_,sF,.inr ⟨rfl,0,_,AD,.inr ⟨rfl,.inr ⟨h,rfl,rfl⟩⟩⟩⟩⟩⟩⟩,h⟩
 exact .inl ⟨⟨0,i,j,c,.inr ⟨rfl,b,m,hb,a,0,_,d,.inr ⟨rfl,.inr ⟨_,_,rfl,rfl,rfl,0,_,sF,.inr ⟨rfl,0,_,AD,.inr ⟨rfl,.inl ⟨by rw [h];decide,h.symm,rfl⟩⟩⟩⟩⟩⟩⟩,h⟩
end
/-! Texts of numbers as tokens. -/
theorem nG (q:Rat):∃ c r,am q=c::r/\(aX c=true\/c=45):=by
 obtain ⟨m,D,t,d,e,f⟩:=kx q;obtain ⟨c,r,b,a⟩:=fW d;rw [e,b];cases m
 ·exact ⟨c,r++t,rfl,.inl a⟩
 exact ⟨45,_,rfl,.inr rfl⟩
theorem pe {q:Rat}{s:List UInt8}(b:∀ c t,s=c::t->c=32\/c=59):aU (am q++s)=if 60<(am q).length then .err 4 else .ok 1 (am q).length:=by
 obtain ⟨m,D,t,g,e,i⟩:=kx q
 have a:bJ (am q++s)=(am q).length:=by
  rw [e];exact qh g (by rcases i with ⟨h,_⟩ | ⟨E,d,h,_⟩;exact .inl h;exact .inr ⟨E,d,h⟩) b
 obtain ⟨c,r,j,f⟩:=nG q;obtain ⟨k,l⟩:=zU f;rw [j] at a ⊢;rw [List.cons_append] at a ⊢;have hw:be (c::(r++s))=0:=by rw [be,l];rfl
 unfold aU;simp only [k,hw,a,Bool.false_eq_true,if_false];rw [if_neg (by omega),if_neg (by simp)];split
 ·rfl
 rw [<- List.cons_append,List.drop_left,(tJ b).2.1];rfl
theorem sG {q:Rat}{s:List UInt8}(f:60<(am q).length) (g:∀ c t,s=c::t->c=32\/c=59) (line col:Nat):tk (am q++s) line col=.err 4:=by
 have h:=pe (q:=q) g;rw [if_pos f] at h;obtain ⟨c,r,e,a⟩:=nG q;rw [e,List.cons_append] at h ⊢
 have b:c≠10/\dt c=false/\c≠37:=by
  rcases a with a | rfl
  ·unfold aX at a
   simp only [Bool.and_eq_true,decide_eq_true_eq] at a;refine ⟨fun e=>by subst e;exact absurd a (by decide),?_,fun e=>by subst e;exact absurd a (by decide)⟩;cases hb:dt c
   ·rfl
   unfold dt at hb;simp only [Bool.or_eq_true,beq_iff_eq] at hb;rcases hb with (d | d) | d <;> (subst d;exact absurd a (by decide))
  decide
 exact tg h b.1 b.2.1 b.2.2 line col
theorem num_two {q r:Rat}(j:(am q++[32]++am r).length<=65536):(∃ i f,bh (am q++[32]++am r) 0 [i,f]/\i.kind=1/\f.kind=1/\dY i.text 0 q/\dY f.text 0 r)\/bh (am q++[32]++am r) 4 []:=by
 have g:∀ c t,(32::am r:List UInt8)=c::t->c=32\/c=59:=fun c t h=>by injection h with h;exact .inl h.symm
 have d:∀ c t,([]:List UInt8)=c::t->c=32\/c=59:=fun c t h=>by cases h
 have w:am q++[32]++am r=am q++32::am r:=by simp
 rw [w] at j ⊢;by_cases hq:(am q).length<=60
 ·by_cases hr:(am r).length<=60
  ·have o:Spl (am r++[]) ((1,am r)::[]):=Spl.num hr d Spl.nil
   rw [List.append_nil] at o;obtain ⟨l,x,m⟩:=(Spl.num hq g (Spl.blank o)).out j
   obtain ⟨i,f,rfl⟩:∃ i f,l=[i,f]:=by
    have n:=congrArg List.length m;rw [nq] at n
    match l,n with
    | [a,b],_=>exact ⟨a,b,rfl⟩
   ·simp only [kt,List.map_cons,List.map_nil,List.cons.injEq,Prod.mk.injEq] at m
    obtain ⟨⟨y,x0⟩,⟨v,z⟩,_⟩:=m;have u:=lW (am q);have p:=lW (am r);rw [(jc hq).1,(jc hq).2] at u;rw [(jc hr).1,(jc hr).2] at p;exact .inl ⟨i,f,x,y,v,by rw [x0];exact u,by rw [z];exact p⟩
  refine .inr (.err 4 j ?_ rfl rfl);have k:=pe (q:=q) g;rw [if_neg (by omega)] at k;obtain ⟨c,t,e,A⟩:=nG q;show tk _ 1 1=_;rw [e,List.cons_append] at k ⊢;rw [pJ k,<- List.cons_append,List.drop_left,hH (by decide)];have:=sG (q:=r) (s:=[]) (by omega) d 1 (1+(c::t).length+1);rw [List.append_nil] at this;rw [this];rfl
 refine .inr (.err 4 j ?_ rfl rfl);exact sG (by omega) g 1 1
section
variable {L:ag}{i j:Nat}{b:BodyL}{m:MarkL}{x y:Rat}
theorem Cr (p:aG L=0) (hb:L.bodies[i]?=some b) (o:b.pts[j]?=some m) (h:MkW m) (A:(am m.x.q++[32]++am m.y.q).length<=65536):nB (mvL L i j b m x y) (du b m) (am m.x.q++[32]++am m.y.q) 4 L0\/nB (mvL L i j b m x y) (du b m) (am m.x.q++[32]++am m.y.q) 0 L:=by
 have v:=bI p;have f:=(v.body b (List.mem_of_getElem? hb)).pts m (List.mem_of_getElem? o);have n:=(List.getElem?_eq_some_iff.1 hb).1;have k:=(List.getElem?_eq_some_iff.1 o).1
 have d:(mvL L i j b m x y).bodies[i]?=some ⟨b.name,b.pts.set j ⟨m.name,rd x,rd y⟩⟩:=by
  show (L.bodies.set i _)[i]?=_;rw [List.getElem?_set_self n]
 have c:(b.pts.set j ⟨m.name,rd x,rd y⟩)[j]?=some ⟨m.name,rd x,rd y⟩:=List.getElem?_set_self k;have r:sB (mvL L i j b m x y) (du b m) 0 i j:=.inl ⟨rfl,_,_,d,c,rfl⟩
 have g:mvL (mvL L i j b m x y) i j ⟨b.name,b.pts.set j ⟨m.name,rd x,rd y⟩⟩ ⟨m.name,rd x,rd y⟩ m.x.q m.y.q=L:=by
  have B:(⟨m.name,rd m.x.q,rd m.y.q⟩:MarkL)=m:=by rw [eN h.1.1 h.1.2 f.x,eN h.2.1 h.2.2 f.y]
  unfold mvL;simp only [B,List.set_set];rw [nF o];show ag.mk L.name (L.bodies.set i ⟨b.name,b.pts⟩) L.joints L.drivers=L;rw [nF (a:=b) hb]
 rcases num_two A with ⟨w,z,l,t,s,C,u⟩ | l
 ·exact .inr ⟨0,i,j,r,.inr ⟨rfl,_,_,d,c,0,_,l,.inr ⟨rfl,.inr ⟨w,z,rfl,t,s,0,_,C,.inr ⟨rfl,0,_,u,.inr ⟨rfl,.inr ⟨by rw [g];exact p,rfl,g.symm⟩⟩⟩⟩⟩⟩⟩
 exact .inl ⟨0,i,j,r,.inr ⟨rfl,_,_,d,c,4,_,l,.inl ⟨by decide,rfl,rfl⟩⟩⟩
end
theorem Eg (nm:List UInt8):(Value.string ((⟨#[98,111,100,121,32]⟩:ByteArray)++⟨nm.toArray⟩++⟨#[32,123,32,79,32,48,32,48,59,32,125]⟩))=aa (bK (nbL nm)):=by
 rw [uZ];unfold aa;congr 1
theorem Eh (b:BodyL) (m:MarkL):(Value.string ((⟨b.name.toArray⟩:ByteArray)++⟨#[46]⟩++⟨m.name.toArray⟩))=aa (du b m):=by
 unfold du aa;congr 1
theorem Ei (a b:List UInt8):(Value.string ((⟨a.toArray⟩:ByteArray)++⟨#[32]⟩++⟨b.toArray⟩))=aa (a++[32]++b):=by
 unfold aa;congr 1
theorem Fv {w:World}{g x:Nat}{t:TypeId}{cs:Array Value}(a:¬ x=g) (h:Blk w x t cs) (d f c b:Value):Blk ((((w.setCell ⟨g,0,none⟩ d).setCell ⟨g,1,none⟩ f).setCell ⟨g,2,none⟩ c).setCell ⟨g,3,none⟩ b) x t cs :=
 ((Below.heap_setCell _ ⟨g,3,none⟩ _ x a).trans ((Below.heap_setCell _ ⟨g,2,none⟩ _ x a).trans ((Below.heap_setCell _ ⟨g,1,none⟩ _ x a).trans (Below.heap_setCell _ ⟨g,0,none⟩ _ x a)))).trans h
theorem Ej {L M:ag}{nm:List UInt8}{x:Int}{b:BodyL}(s:aG L=0) (n:LkW L) (c:x=0) (p:ApK L ⟨0,[],bK (nbL nm)⟩ x M) (q:M.bodies.length=L.bodies.length+1) (hb:M.bodies[L.bodies.length]?=some b) (h:b.name=nm):M=adL L nm/\aG M=0:=by
 subst c
 have key:cg L=0/\dk (bX L++32::bK (nbL nm)) 0 M:=by
  cases p with
  | addN a h=>exact absurd rfl h
  | addO a h f c q=>exact absurd c.symm f
  | add a h f d=>exact ⟨f,d⟩
  | ren a d=>have a:(0:Int)=4:=a;omega
  | mv a d=>have a:(0:Int)=5:=a;omega
  | none j=>have j:(0:Int)<0\/(5:Int)<0:=j;omega
  | offT a=>have a:(1:Int)<=0/\(0:Int)<=3:=a;omega
  | rem a=>have a:(0:Int)=1:=a;omega
  | jt a=>have a:(0:Int)=2:=a;omega
  | dr a=>have a:(0:Int)=3:=a;omega
 obtain ⟨f,d⟩:=key
 have g:aG M=0:=by
  rcases d with ⟨_,_,c,_⟩ | ⟨_,_,_,c,_⟩ | ⟨_,_,_,_,c,_⟩ | ⟨l,t,o,k,r,m⟩
  ·exact absurd rfl c
  ·exact absurd rfl c
  ·exact absurd rfl c
  rw [m];first | exact k | exact o | exact r
 have i:aQ nm=true:=by rw [<- h];exact ((bI g).body b (List.mem_of_getElem? hb)).name
 exact ⟨Cq f n d i,g⟩
abbrev frt (u0 u1 u2 u3 u4 u5 u6 u7 u9 u10 u11 u12 u13 u15 u16 u17 u18 u19 u20 u21 u22 u23 u24 u25 u26 u27 u28 u29 u30 u31 u32 u33 u34 u35 u36 u37 u38 u39 u40 u41 u42 u43 u44 u45 u46 u47 u48 u49 u50 u51 u52 u53 u54 u55 u56 u57 u58 u59 u60 u61 u62 u63 u64 u65 u66 u67 u68 u69 u70 u71 u72 u73 u74 u75 u76 u77 u78 u79 u80 u81 u82 u83 u84 u85 u86 u87 u88 u89 u90 u91 u92 u93 u94 u95 u96 u97 u98 u99 u100 u101 u102 u103 u104 u105 u106 u107 u108 u109 u110 u111 u112 u113 u114 u115 u116 u117 u118 u119 u120 u136 u137 u138 u139 u140 u141 u142:Value) (xf:Nat->Value):Act:=⟨List.toArray (u0::u1::u2::u3::u4::u5::u6::u7::xf 17::u9::u10::u11::u12::u13::xf 15::u15::u16::u17::u18::u19::u20::u21::u22::u23::u24::u25::u26::u27::u28::u29::u30::u31::u32::u33::u34::u35::u36::u37::u38::u39::u40::u41::u42::u43::u44::u45::u46::u47::u48::u49::u50::u51::u52::u53::u54::u55::u56::u57::u58::u59::u60::u61::u62::u63::u64::u65::u66::u67::u68::u69::u70::u71::u72::u73::u74::u75::u76::u77::u78::u79::u80::u81::u82::u83::u84::u85::u86::u87::u88::u89::u90::u91::u92::u93::u94::u95::u96::u97::u98::u99::u100::u101::u102::u103::u104::u105::u106::u107::u108::u109::u110::u111::u112::u113::u114::u115::u116::u117::u118::u119::u120::xf 12::xf 0::xf 1::xf 2::xf 3::xf 4::xf 5::xf 6::xf 7::xf 8::xf 9::xf 10::xf 11::xf 13::xf 14::u136::u137::u138::u139::u140::u141::u142::[]),[]⟩
theorem nZ (w:World) (A:Option Addr) (n c:Nat) (C:Option Addr) (p d:Nat) (D:Option Addr) (q e:Nat) (L:ag) (h:LkS reachBytes w A n c C p d D q e L) (nm:List UInt8) (ez:nm.length<9223372036854775808) (k:Int) (l:0<=k/\k<=255) (bz:Tab w) (cx:Mx w):Calls Tryz.prog 4 #[.agg #[aa L.name,.slice A n c,.slice C p d,.slice D q e],aa nm,.int .u8 k] w (ax w (.bool true)):=by
 have q0:=(ae w).alloc Qr (.cells #[aa L.name,.slice A n c,.slice C p d,.slice D q e] 26);have x0:Blk (w.alloc (.cells #[aa L.name,.slice A n c,.slice C p d,.slice D q e] 26)) w.heap.size 26 #[aa L.name,.slice A n c,.slice C p d,.slice D q e]:=Blk.new _ _ _;have H:=Qh h;have t:=Qh bz;have HM:=Qh cx;obtain ⟨kn,rfl⟩:∃ kn:Nat,k=(kn:Nat):=⟨k.toNat,by omega⟩;have HK:=Qh (show kn<=255 by omega);obtain ⟨v1,dv⟩:∃ v,sE L=v:=⟨_,rfl⟩;have ch:=Qh dv;clear h bz cx dv l;go_in;go_wp2_with fail;generalize (w.alloc (.cells #[aa L.name,.slice A n c,.slice C p d,.slice D q e] 26))=w0 at q0 x0 ⊢;refine (jf w0 (t.out.belw q0) (HM.out.belw q0)).mono ?_;rintro e' w1 ⟨rfl,ab⟩;have q1:=q0.trans (ab.mono q0.size);have x1:=x0.below ab x0.lt;obtain ⟨a0,a1,a2,a3⟩:=x1.c4;clear x0 q0 ab;go_wp2_with fail;refine (wW w1 A n c C p d D q e L (H.out.belw q1) v1 ch.out).mono ?_;rintro e' w2 ⟨rfl,ad⟩;have q2:=q1.trans (ad.mono q1.size);have x2:=x1.below ad x1.lt;clear a0 a1 a2 a3 x1 q1 ad;cases v1;rotate_left
 ·go_wp2_with fail
  refine (jf w2 (t.out.belw q2) (HM.out.belw q2)).mono ?_;rintro e' w3 ⟨rfl,W⟩;have q3:=q2.trans (W.mono q2.size);go_wp2;go_ret;exact ⟨rfl,q3⟩
 by_cases eh:100<nm.length
 ·have u1:((100:Int)<(nm.length:Int))=True:=eq_true (by omega)
  go_wp2_with fail;refine (jf w2 (t.out.belw q2) (HM.out.belw q2)).mono ?_;rintro e' w3 ⟨rfl,W⟩;have q3:=q2.trans (W.mono q2.size);go_wp2;go_ret;exact ⟨rfl,q3⟩
 have u1:((100:Int)<(nm.length:Int))=False:=eq_false (by omega);have H2:=Qh (((H.out.belw q2).of40 (uY ch.out)));have HW:=Qh (H.out.of40 (uY ch.out));obtain ⟨a0,a1,a2,a3⟩:=x2.c4;go_wp2_with fail;refine (Ca w2 A n c C p d D q e L 40 H2.out (by decide) (by decide) (aG L) rfl).mono ?_;rintro e' w3 ⟨rfl,W⟩;have q3:=q2.trans (W.mono q2.size);have x3:=x2.below W x2.lt;have H3:=Qh (H2.out.belw W);clear a0 a1 a2 a3 x2 q2 W H2;by_cases hL:aG L=0;rotate_left
 ·have u2:(aG L=0)=False:=eq_false hL
  have u3:(aG L==0)=false:=by simpa using hL
  go_wp2_with fail;refine (jf w3 (t.out.belw q3) (HM.out.belw q3)).mono ?_;rintro e' w5 ⟨rfl,Q⟩;have q5:=q3.trans (Q.mono q3.size);go_wp2;go_ret;exact ⟨rfl,q5⟩
 rw [hL];have Y:=Qh hL;have E:=Qh (jD hL);have bl:=Qh (show nm.length<=100 by omega);clear u1 hL eh;obtain ⟨ga,cr⟩:∃ x,w.heap.size=x:=⟨_,rfl⟩;rw [cr] at x3 ⊢;have QW:=Qh q3;clear cr q3 H;obtain ⟨a0,a1,a2,a3⟩:=x3.c4;have k1:(9223372036854775807<5+nm.length)=False:=eq_false (by have:=bl.out;omega);have k2:(9223372036854775807<5+nm.length+11)=False:=eq_false (by have:=bl.out;omega);obtain ⟨xa,M,hA⟩:=apK L ⟨0,[],bK (nbL nm)⟩;have f:(bK (nbL nm)).length<=1000000:=by rw [uZ];simp;have:=bl.out;omega
 have g:=Qh ((nC L Y.out ⟨0,[],bK (nbL nm)⟩ f xa M hA) w3 A n c C p d D q e (t.out.belw QW.out) (HM.out.belw QW.out) (H3.out.upto (by decide)));have HA:=Qh hA;clear hA f;go_wp2_with fail;rw [Eg nm];refine g.out.mono ?_;rintro e' w4 ⟨A1,n1,c1,C1,p1,d1,D1,q1,e1,rfl,P,a5⟩;have x4:=x3.below a5 x3.lt;have Q4:=Qh (QW.out.trans (a5.mono QW.out.size));have H4:=Qh (H3.out.belw a5);have HY:=Qh P;have eo:=Qh a5;have qa:=(ae w4).alloc Qr (.cells #[aa M.name,.slice A1 n1 c1,.slice C1 p1 d1,.slice D1 q1 e1] 26);have xm:Blk (w4.alloc (.cells #[aa M.name,.slice A1 n1 c1,.slice C1 p1 d1,.slice D1 q1 e1] 26)) w4.heap.size 26 #[aa M.name,.slice A1 n1 c1,.slice C1 p1 d1,.slice D1 q1 e1]:=Blk.new _ _ _;have F:=Qh qa;have XM:=Qh xm;clear x3 H3 a0 a1 a2 a3 a5 P g QW k1 k2 qa xm;go_upto_region 4 with fail;refine cQ ?_;intro w5 B;have z:w5=w4.alloc (.cells #[aa M.name,.slice A1 n1 c1,.slice C1 p1 d1,.slice D1 q1 e1] 26):=B;rw [<- z] at F XM;clear B z;have GM:=Qh (And.intro Q4.out.size x4.lt);obtain ⟨gm,cs⟩:∃ x,w4.heap.size=x:=⟨_,rfl⟩;rw [cs] at XM GM ⊢;have x5:=x4.below F.out x4.lt;have Q5:=Qh (Q4.out.trans (F.out.mono Q4.out.size));have H5:=Qh (H4.out.belw F.out);have bv:=Qh (HY.out.blw F.out);have ej:=E.out.nb;have cn:=H5.out.bodies.1;have d7:=bv.out.len.1;have LN:=Qh cn;have MN:=Qh d7;have NB:n<=1000:=by omega
 clear cs x4 Q4 H4 HY F eo ej cn d7;obtain ⟨ev,U⟩:∃ v,bo xa=v:=⟨_,rfl⟩;rw [U];have bs:=Qh U;clear U;go_cut [64] (fun s wx=>w5=wx/\∃ v:Bool,s=.bool v/\(v=true->xa=0/\∃ b,n1=n+1/\M.bodies[n]?=some b/\b.name=nm))
 case first =>
  obtain ⟨a0,a1,a2,a3⟩:=x5.c4;obtain ⟨m0,m1,m2,m3⟩:=XM.out.c4;by_cases O:xa=0;rotate_left
  ·have U:=bs.out
   rw [eVp O] at U;subst U;clear bs;go_wp2_with fail;go_meet;exact ⟨rfl,false,rfl,(fun h=>by cases h)⟩
  have U:=bs.out;rw [O,aO] at U;subst U;have HX:=Qh O;clear O bs;have w1:IntKind.i64.wrap ((n:Int)+1)=(n:Int)+1:=wrap_i64 (by omega) (by omega);by_cases hn:n1=n+1;rotate_left
  ·have e1:((n1:Int)==(n:Int)+1)=false:=by simp;omega
   have e2:((n1:Int)=(n:Int)+1)=False:=by simp;omega
   go_wp2_with fail;go_meet;exact ⟨rfl,false,rfl,(fun h=>by cases h)⟩
  obtain ⟨g9,o9,b,e1,hg,_,a7,es⟩:=bv.out.out.bodies.at_ (show n<n1 by omega);obtain ⟨A9,n9,c9,d0,_,_,_⟩:=es;subst e1;have i1:(n:Int)<(n1:Int):=by omega
  have i2:((n:Int)<(n1:Int))=True:=eq_true i1;have e1:((n1:Int)==(n:Int)+1)=true:=by simp;omega
  have e2:((n1:Int)=(n:Int)+1)=True:=by simp;omega
  have HN:=Qh hn;have a9:=Qh a7;have fb:=aF b.name;have eA:=aF nm;clear hn a7;by_cases hh:b.name=nm
  ·have ek:(b.name==nm)=true:=by simpa using hh
   have HH:=Qh hh;clear hh;go_wp2_with fail;go_meet;exact ⟨rfl,true,rfl,fun _=>⟨HX.out,b,HN.out,a9.out,HH.out⟩⟩
  have ek:(b.name==nm)=false:=by simpa using hh
  clear hh;go_wp2_with fail;go_meet;exact ⟨rfl,false,rfl,(fun h=>by cases h)⟩
 case rest =>
 obtain ⟨rfl,v,rfl,hv⟩:=hcut;have HV:=Qh hv;clear hv;go_upto_if 64 with fail;go_cut [9] (fun _ wx=>Blk wx gm 26 #[aa M.name,.slice A1 n1 c1,.slice C1 p1 d1,.slice D1 q1 e1]/\Below w5.heap.size w5 wx)
 case first =>
  cases v
  ·go_wp2_with fail
   go_meet;exact ⟨XM.out,ae _⟩
  obtain ⟨O,b,hn,hb,c5⟩:=HV.out rfl;obtain ⟨hM,bw⟩:=Ej (b:=b) Y.out H5.out.words O HA.out (by rw [MN.out,LN.out];exact hn) (by rw [LN.out];exact hb) c5;have g:=Qh ((nC M bw ⟨1,nm,[]⟩ (by simp) 0 L (.rem rfl rfl (by rw [hM] at bw ⊢;exact Aw Y.out bw))) w5 A1 n1 c1 C1 p1 d1 D1 q1 e1 (t.out.belw Q5.out) (HM.out.belw Q5.out) bv.out.out);obtain ⟨m0,m1,m2,m3⟩:=XM.out.c4;clear O hn hb c5 hM bw;go_wp2_with fail;refine g.out.mono ?_;rintro e' w6 ⟨A2,n2,c2,C2,p2,d2,D2,q2,e2,rfl,P,bd⟩;have x6:=x5.below bd x5.lt;have ed:=Qh P;have H6:=Qh (H5.out.belw bd);have ca:=Qh (XM.out.below bd XM.out.lt);have qa:=(ae w6).alloc Qr (.cells #[aa L.name,.slice A2 n2 c2,.slice C2 p2 d2,.slice D2 q2 e2] 26);have xm:Blk (w6.alloc (.cells #[aa L.name,.slice A2 n2 c2,.slice C2 p2 d2,.slice D2 q2 e2] 26)) w6.heap.size 26 #[aa L.name,.slice A2 n2 c2,.slice C2 p2 d2,.slice D2 q2 e2]:=Blk.new _ _ _;have F:=Qh qa;have XQ:=Qh xm;have bY:=Qh bd;rw [aO];clear m0 m1 m2 m3 P bd g qa xm;go_upto_region 6 with fail;refine cQ ?_;intro w7 B;have z:w7=w6.alloc (.cells #[aa L.name,.slice A2 n2 c2,.slice C2 p2 d2,.slice D2 q2 e2] 26):=B;rw [<- z] at F XQ;clear B z;have x7:=x6.below F.out x6.lt;have H7:=Qh (H6.out.belw F.out);have ec:=Qh (ed.out.blw F.out);have cm:=Qh (ca.out.below F.out ca.out.lt);have B7:=Qh (bY.out.trans (F.out.mono bY.out.size));obtain ⟨gq,db⟩:∃ x,w6.heap.size=x:=⟨_,rfl⟩;rw [db] at XQ ⊢;clear db F bY H6 ca x6 ed;obtain ⟨m0,m1,m2,m3⟩:=XQ.out.c4;obtain ⟨a0,a1,a2,a3⟩:=x7.c4;obtain ⟨aS,a6,aT⟩:=ec.out.len;have LL:=Qh (And.intro aS (And.intro a6 aT));clear aS a6 aT;go_wp2_with fail;refine (sy w7 A2 n2 c2 C2 p2 d2 D2 q2 e2 L (ec.out.out.upto (by decide)) A n c C p d D q e L (H7.out.upto (by decide)) E.out.np (by have:=E.out.nb;have:=LL.out.1;omega) (by have:=E.out.nj;have:=LL.out.2.1;omega) (by have:=E.out.nd;have:=LL.out.2.2;omega) true (by simp)).mono ?_;rintro e' w8 ⟨rfl,ds⟩;go_wp2_with fail;go_meet;exact ⟨cm.out.below ds cm.out.lt,B7.out.trans (ds.mono B7.out.size)⟩
 case rest =>
 obtain ⟨xm,hb⟩:=hcut;rename World=>w8;have X8:=Qh (x5.below hb x5.lt);have Q8:=Qh (Q5.out.trans (hb.mono Q5.out.size));have bn:=Qh xm;have cb:=(bI Y.out).ok.b0;rw [LN.out] at cb;obtain ⟨i,hi⟩:∃ i,kn%n=i:=⟨_,rfl⟩;have cz:i<n:=by rw [<- hi];exact Nat.mod_lt _ cb
 obtain ⟨g8,o8,b,e8,em,_,a7,A9,n9,c9,d0,d1,ea,aC⟩:=HW.out.bodies.at_ cz;subst e8;have a9:=Qh a7;have eb:=Qh ea;have cu:=Qh aC;have qz:=(ae w8).alloc Qr (.cells #[.string ⟨#[]⟩,.slice none 0 0] 51);have kc:IntKind.i64.wrap (kn:Int)=(kn:Int):=wrap_i64 (by omega) (by have:=HK.out;omega);have kr:(kn:Int).tmod (n:Int)=(i:Int):=by rw [<- hi];exact (Int.ofNat_tmod kn n).symm
 have kz:((n:Int)=0)=False:=by simp;omega
 have ep:((n:Int)==0)=false:=by simp;omega
 have ki:(0:Int)<=(i:Int):=by omega
 have kj:(i:Int)<(n:Int):=by omega
 have b9:(n=0)=False:=by simp;omega
 have ei:¬ n=0:=by omega
 obtain ⟨a0,a1,a2,a3⟩:=X8.out.c4;have b4:¬ ga=w8.heap.size:=by have:=X8.out.lt;omega
 have b7:¬ g8=w8.heap.size:=by have:=Q8.out.size;omega
 have d0:=ai d0 Q8.out;have d1:=ai d1 Q8.out;have d2:=ai d0 qz;have d3:=ai d1 qz;have a4:=ai a1 qz;clear x5 H5 Q5 bv XM xm hb a7 ea hi em aC bl HV MN LN HA NB;go_upto_region 8 with fail;go_region;have qb:Below w8.heap.size w8 (w8.alloc (.cells #[aa b.name,.slice A9 n9 c9] 51)).drew:=((ae w8).alloc Qr _).drew;have ac:Blk (w8.alloc (.cells #[aa b.name,.slice A9 n9 c9] 51)) w8.heap.size 51 #[aa b.name,.slice A9 n9 c9]:=Blk.new _ _ _;have XB:=Qh (ac.below (ae _).drew ac.lt);have QB:=Qh qb;clear kr kz ep ki kj b9 ei a0 a1 a2 a3 b4 b7 d0 d1 d2 d3 a4 ac qb qz cz cb;go_upto_region 9 with fail;refine cQ ?_;intro w9 B;have z:w9=(w8.alloc (.cells #[aa b.name,.slice A9 n9 c9] 51)).drew:=B;rw [<- z] at XB QB;clear B z;obtain ⟨gb,b8⟩:∃ x,w8.heap.size=x:=⟨_,rfl⟩;have GB:=Qh (show gm<gb by rw [<- b8];exact bn.out.lt);have V:=Qh (Q8.out.trans (QB.out.mono Q8.out.size));have X9:=Qh (X8.out.below QB.out X8.out.lt);have bu:=Qh (bn.out.below QB.out bn.out.lt);rw [b8] at XB ⊢;clear b8 QB X8 bn Q8;obtain ⟨y0,y1⟩:=XB.out.c2;by_cases h0:n9=0
 ·have e1:((n9:Int)==0)=true:=by simp [h0]
  have e2:((n9:Int)=0)=True:=by simp [h0]
  have HE:=Qh h0;clear h0;go_wp2;go_ret;exact ⟨rfl,V.out⟩
 have e1:((n9:Int)==0)=false:=by simp [h0]
 have e2:((n9:Int)=0)=False:=by simp [h0]
 go_upto_region 11 with fail;obtain ⟨j,hj⟩:∃ j,kn%n9=j:=⟨_,rfl⟩;have dq:j<n9:=by rw [<- hj];exact Nat.mod_lt _ (by omega)
 obtain ⟨bb,bk,m,el,ex,_,dO,f0,⟨vb,vA,vn,vc,vD,vm,ve,f1,f2,f3,ee⟩,⟨ub,uA,un,uc,uD,um,ue,f4,f5,f6,di⟩,aC⟩:=eb.out.at_ dq;subst el;have cc:=Qh dO;have dr:=Qh ee;have cL:=Qh di;have c8:=Qh aC;have f2:w.cell? ⟨bb,bk+j*7+2,none⟩=some (.slice vA vn vc):=f2;have f3:w.cell? ⟨bb,bk+j*7+3,none⟩=some (.slice vD vm ve):=f3;have f5:w.cell? ⟨bb,bk+j*7+5,none⟩=some (.slice uA un uc):=f5;have f6:w.cell? ⟨bb,bk+j*7+6,none⟩=some (.slice uD um ue):=f6;have f0:=ai f0 V.out;have f1:=ai f1 V.out;have f2:=ai f2 V.out;have f3:=ai f3 V.out;have f4:=ai f4 V.out;have f5:=ai f5 V.out;have f6:=ai f6 V.out;have qz:=(ae w9).alloc Qr (.cells #[.string ⟨#[]⟩,.bool false,.slice none 0 0,.slice none 0 0,.bool false,.slice none 0 0,.slice none 0 0] 56);have i0:=ai f0 qz;have i1:=ai f1 qz;have i2:=ai f2 qz;have i3:=ai f3 qz;have i4:=ai f4 qz;have i5:=ai f5 qz;have i6:=ai f6 qz;have y2:=ai y0 qz;have y3:=ai y1 qz;have kr:(kn:Int).tmod (n9:Int)=(j:Int):=by rw [<- hj];exact (Int.ofNat_tmod kn n9).symm
 have ki:(0:Int)<=(j:Int):=by omega
 have kj:(j:Int)<(n9:Int):=by omega
 have b9:(n9=0)=False:=by simp;omega
 have b4:¬ gb=w9.heap.size:=by have:=XB.out.lt;omega
 have b7:¬ bb=w9.heap.size:=by have:=V.out.size;omega
 clear hj dO ee di aC eb;go_region;have qb:Below w9.heap.size w9 (w9.alloc (.cells #[aa m.name,.bool vb,.slice vA vn vc,.slice vD vm ve,.bool ub,.slice uA un uc,.slice uD um ue] 56)).drew:=((ae w9).alloc Qr _).drew;have ac:Blk (w9.alloc (.cells #[aa m.name,.bool vb,.slice vA vn vc,.slice vD vm ve,.bool ub,.slice uA un uc,.slice uD um ue] 56)) w9.heap.size 56 #[aa m.name,.bool vb,.slice vA vn vc,.slice vD vm ve,.bool ub,.slice uA un uc,.slice uD um ue]:=Blk.new _ _ _;have XP:=Qh (ac.below (ae _).drew ac.lt);have QB:=Qh qb;clear kr ki kj b9 h0 f0 f1 f2 f3 f4 f5 f6 i0 i1 i2 i3 i4 i5 i6 y0 y1 y2 y3 b4 b7 ac qb qz dq e1 e2 kc;go_upto_region 12 with fail;refine cQ ?_;intro wa B;have z:wa=(w9.alloc (.cells #[aa m.name,.bool vb,.slice vA vn vc,.slice vD vm ve,.bool ub,.slice uA un uc,.slice uD um ue] 56)).drew:=B;rw [<- z] at XP QB;clear B z;obtain ⟨gp,d5⟩:∃ x,w9.heap.size=x:=⟨_,rfl⟩;have GP:=Qh (show ¬ gp=gm by have:=bu.out.lt;omega);have Qa:=Qh (V.out.trans (QB.out.mono V.out.size));have Xa:=Qh (X9.out.below QB.out X9.out.lt);have bf:=Qh (bu.out.below QB.out bu.out.lt);have cp:=Qh (XB.out.below QB.out XB.out.lt);rw [d5] at XP ⊢;clear d5 QB X9 bu V XB;obtain ⟨y0,y1⟩:=cp.out.c2;have y2:=XP.out.cell 0;have k1:(9223372036854775807<b.name.length+1)=False:=eq_false (by have:b.name.length<_:=cu.out;omega);have k2:(9223372036854775807<b.name.length+1+m.name.length)=False:=eq_false (by have:b.name.length<_:=cu.out;have:m.name.length<_:=c8.out;omega);go_upto_region 13 with fail;rw [Eh b m];clear k1 k2 y0 y1 y2 cp;obtain ⟨a0,a1,a2,a3⟩:=Xa.out.c4;have br:aa kI=Value.string ⟨#[49,47,50,32,45,51]⟩:=rfl;rcases mv_there Y.out a9.out cc.out with ⟨Z,eq⟩ | ⟨Z,b5⟩
 ·have hc:=(nC L Y.out ⟨5,du b m,kI⟩ (show kI.length<=1000000 by decide) 8 L0 (.mv rfl Z)) wa (some ⟨g8,o8,none⟩) n c C p d D q e (t.out.belw Qa.out) (HM.out.belw Qa.out) ((HW.out.belw Qa.out).upto (by decide))
  dsimp only at hc;rw [br] at hc;have g:=Qh hc;clear hc br Z eq;go_wp2_with fail;refine g.out.mono ?_;rintro e' wb ⟨A3,n3,c3,C3,p3,d3,D3,q3,e3,rfl,P,S⟩;have Qb:=Qh (Qa.out.trans (S.mono Qa.out.size));have X:=bf.out.below S bf.out.lt;obtain ⟨m0,m1,m2,m3⟩:=X.c4;obtain ⟨r0,r1,r2,r3⟩:=X.f4;rw [eVp (show (8:Int)≠0 by decide)];clear P S g X;go_wp2_with fail;refine (ES _ 8).mono ?_;rintro e' wc ⟨rfl,ao⟩;go_wp2;go_ret;exact ⟨rfl,(cO Qb.out GM.out.1 _ _ _ _).trans (ao.mono (cO Qb.out GM.out.1 _ _ _ _).size)⟩
 have hc:=(nC L Y.out ⟨5,du b m,kI⟩ (show kI.length<=1000000 by decide) 0 (mvL L i j b m (Rat.divInt 1 2) ((-3:Int):Rat)) (.mv rfl Z)) wa (some ⟨g8,o8,none⟩) n c C p d D q e (t.out.belw Qa.out) (HM.out.belw Qa.out) ((HW.out.belw Qa.out).upto (by decide));obtain ⟨N,hN⟩:∃ N,mvL L i j b m (Rat.divInt 1 2) ((-3:Int):Rat)=N:=⟨_,rfl⟩;dsimp only at hc;rw [br,hN] at hc;rw [hN] at b5;have g:=Qh hc;have c7:=Qh b5;have HN:=Qh hN;clear hc br Z b5 hN;go_wp2_with fail;refine g.out.mono ?_;rintro e' wb ⟨A3,n3,c3,C3,p3,d3,D3,q3,e3,rfl,P,S⟩;have Qb:=Qh (Qa.out.trans (S.mono Qa.out.size));have X:=bf.out.below S bf.out.lt;obtain ⟨m0,m1,m2,m3⟩:=X.c4;obtain ⟨r0,r1,r2,r3⟩:=X.f4;rw [aO];have b6:=Qh X;have HY:=Qh P;have Xb:=Qh (Xa.out.below S Xa.out.lt);have cv:=Qh (XP.out.below S XP.out.lt);clear P S g X a0 a1 a2 a3 Xa XP bf Qa;go_upto_region 16 with fail;refine cQ ?_;intro wd B;have z:wd=((((wb.setCell ⟨gm,0,none⟩ (aa N.name)).setCell ⟨gm,1,none⟩ (.slice A3 n3 c3)).setCell ⟨gm,2,none⟩ (.slice C3 p3 d3)).setCell ⟨gm,3,none⟩ (.slice D3 q3 e3)):=B;have td:=lm b6.out ⟨rfl,rfl,rfl,rfl⟩ (aa N.name) (.slice A3 n3 c3) (.slice C3 p3 d3) (.slice D3 q3 e3);have qd:=cO Qb.out GM.out.1 (aa N.name) (.slice A3 n3 c3) (.slice C3 p3 d3) (.slice D3 q3 e3);have GA:¬ ga=gm:=by have:=GM.out.2;omega
 have xd:=Fv GA Xb.out (aa N.name) (.slice A3 n3 c3) (.slice C3 p3 d3) (.slice D3 q3 e3);have xp:=Fv GP.out cv.out (aa N.name) (.slice A3 n3 c3) (.slice C3 p3 d3) (.slice D3 q3 e3);have xn:=b6.out.s4 (aa N.name) (.slice A3 n3 c3) (.slice C3 p3 d3) (.slice D3 q3 e3);rw [<- z] at td qd xd xp xn;have Qd:=Qh qd;have Xd:=Qh xd;have bg:=Qh xp;have XN:=Qh xn;have en:=Qh (HY.out.tch td (by decide) (by decide) (by decide) (by decide));clear GA B z td qd xd xp xn m0 m1 m2 m3 r0 r1 r2 r3 Qb Xb cv b6 HY;have ab:=Qh (dA (dr.out.sz (by decide)) (by decide));have ad:=Qh (dA (cL.out.sz (by decide)) (by decide));obtain ⟨U1,al⟩:∃ T,am m.x.q=T:=⟨_,rfl⟩;obtain ⟨U2,an⟩:∃ T,am m.y.q=T:=⟨_,rfl⟩;have et:=Qh al;have eg:=Qh an;rw [al] at ab;rw [an] at ad;have kA:(9223372036854775807<U1.length+1)=False:=eq_false (by have:=ab.out;omega);have kB:(9223372036854775807<U1.length+1+U2.length)=False:=eq_false (by have:=ab.out;have:=ad.out;omega)
 have ew:∃ x L',(x=4\/x=0/\L'=L)/\ApC N ⟨5,du b m,U1++[32]++U2⟩ x L':=by
  have hl:(am m.x.q++[32]++am m.y.q).length<=65536:=by rw [al,an];simp;have:=ab.out;have:=ad.out;omega
  have d6:(U1++[32]++U2).length<=1000000:=by rw [<- al,<- an];omega
  have hw:MkW m:=HW.out.words b (List.mem_of_getElem? a9.out) m (List.mem_of_getElem? cc.out);have Z:=Cr (x:=Rat.divInt 1 2) (y:=((-3:Int):Rat)) Y.out a9.out cc.out hw hl;rw [HN.out,al,an] at Z;rcases Z with h | h
  ·exact ⟨4,L0,.inl rfl,nC N c7.out _ d6 4 L0 (.mv rfl h)⟩
  exact ⟨0,L,.inr ⟨rfl,rfl⟩,nC N c7.out _ d6 0 L (.mv rfl h)⟩
 obtain ⟨x,L',O,hA⟩:=ew;have HA:=Qh hA;have HX:=Qh O;clear al an hA O;change Code.wp _ _ _ (frt _ _ _ _ _ _ _ _ _ _ _ _ _ _ _ _ _ _ _ _ _ _ _ _ _ _ _ _ _ _ _ _ _ _ _ _ _ _ _ _ _ _ _ _ _ _ _ _ _ _ _ _ _ _ _ _ _ _ _ _ _ _ _ _ _ _ _ _ _ _ _ _ _ _ _ _ _ _ _ _ _ _ _ _ _ _ _ _ _ _ _ _ _ _ _ _ _ _ _ _ _ _ _ _ _ _ _ _ _ _ _ _ _ _ _ _ _ _ _ _ _ _ _ _ _ _ (fun ri=>List.getD (_::_::_::_::_::_::_::_::_::_::_::_::_::_::_::_::undef::_::[]) ri undef)) _;refine cB (x0:=_) [16] [14,17] (R:=R2 ((jl ((PEq (.agg #[aa N.name,.slice A3 n3 c3,.slice C3 p3 d3,.slice D3 q3 e3]))::(PEq (aa (du b m)))::(PEq (.pointer (some ⟨gp,1,none⟩)))::(PEq (.agg #[.bool vb,.slice vA vn vc,.slice vD vm ve]))::(PEq (aa U1))::(PEq (.string (⟨U1.toArray⟩++⟨#[32]⟩)))::(PEq (.pointer (some ⟨gp,4,none⟩)))::(PEq (.agg #[.bool ub,.slice uA un uc,.slice uD um ue]))::(PEq (aa U2))::(PEq (.string (⟨U1.toArray⟩++⟨#[32]⟩++⟨U2.toArray⟩)))::(PEq (.agg #[.int .i64 5,aa (du b m),.string (⟨U1.toArray⟩++⟨#[32]⟩++⟨U2.toArray⟩)]))::(VAp x L')::(VAp x L')::(VLv L')::(PEq (bo x))::(fun v w=>∃ x,v=.pointer (some ⟨x,0,none⟩)/\wd.heap.size<=x/\Blk w x 26 #[.string ⟨#[]⟩,.slice none 0 0,.slice none 0 0,.slice none 0 0])::fi::(PEq (bo x))::[]))::(cj ((12,(VAp x L'))::(14,(PEq (bo x)))::(15,(VPl wd L'))::(17,(PEq (bo x)))::[]))::[])) (T:=T2 ((fun w=>Below wd.heap.size wd w)::(fun w=>Below wd.heap.size wd w)::[])) (by kernel_rfl) ?_ ?_ (by decide) (jA (by decide)) (fe (by kernel_rfl)) (ff (by kernel_rfl)) (R2.grw ⟨jl.grw ⟨gEq _,gEq _,gEq _,gEq _,gEq _,gEq _,gEq _,gEq _,gEq _,gEq _,gEq _,gAp _ _,gAp _ _,gLv _,gEq _,(fun _ _ _ ⟨x,h0,h1,h2⟩ hb=>⟨x,h0,h1,h2.below hb h2.lt⟩),lF,gEq _,trivial⟩,cj.grw ⟨gAp _ _,gEq _,gPl _ _,gEq _,trivial⟩,trivial⟩) (T2.grw ⟨fun _ _ h hb=>h.trans (hb.mono h.size),fun _ _ h hb=>h.trans (hb.mono h.size),trivial⟩) ?_ ?_ ?_ ?_
 ·exact aw ⟨(fun _ _=>rfl),(fun _ _=>rfl),(fun _ _=>rfl),(fun _ _=>rfl),(fun _ _=>rfl),(fun _ _=>rfl),(fun _ _=>rfl),(fun _ _=>rfl),(fun _ _=>rfl),(fun _ _=>rfl),(fun _ _=>rfl),(fun _ _=>rfl),(fun _ _=>rfl),(fun _ _=>rfl),(fun _ _=>rfl),(fun _ _=>rfl),(fun _ _=>rfl),(fun _ _=>rfl),trivial⟩
 ·exact aw (bF _ 0 (by kernel_rfl))
 ·exact (ae _).drew
 ·refine aw ⟨?_,?_,?_,?_,?_,?_,?_,?_,?_,?_,?_,?_,?_,?_,?_,?_,(fun h=>absurd (by decide) h),?_,trivial⟩
  intro _ k _ l;obtain rfl:=l (by decide);intro a r f hd K I;have f:Below wd.heap.size wd r:=f;obtain ⟨b0,b1,b2,b3⟩:=(XN.out.below f XN.out.lt).c4;have J:=trivial;have G:=trivial;rotate_left;intro _ k _ l;obtain rfl:=l (by decide);intro a r f hd K I;have J:=trivial;have G:=trivial;rotate_left;intro _ k _ l;obtain rfl:=l (by decide);intro a r f hd K I;have J:=trivial;have G:=trivial;rotate_left;intro _ k _ l;obtain rfl:=l (by decide);intro a r f hd K I;have J:a 2=_:=hd ⟨2,.data⟩ (by simp) rfl;have f:Below wd.heap.size wd r:=f;have O:=bg.out.below f bg.out.lt;have eW:=O.cell 1;have fa:=O.cell 2;have eD:=O.cell 3;have G:=trivial;rotate_left
  ·intro _ k _ l
   obtain rfl:=l (by decide);intro a r f hd K I;have f:Below wd.heap.size wd r:=f;have cy:a 3=_:=hd ⟨3,.data⟩ (by simp) rfl;(try dsimp only [frt]);(try simp only [cy]);go_simp;go_at_call 19;refine (fU r _ _ _ _ _ _ _ _ 40 (dr.out.belw (Qd.out.trans (f.mono Qd.out.size))) (by decide) (by decide) (t.out.belw (Qd.out.trans (f.mono Qd.out.size))) _ et.out).mono ?_;rintro e9 wr ⟨rfl,a8⟩;have u:=I.out _ _ rfl a8;dsimp only [frt] at u;simp only [cy] at u;exact u
  intro _ k _ l;obtain rfl:=l (by decide);intro a r f hd K I;have e4:a 4=aa U1:=hd ⟨4,.data⟩ (by simp) rfl;have J:=e4;have G:=trivial;rotate_left;intro _ k _ l;obtain rfl:=l (by decide);intro a r f hd K I;have J:=trivial;have G:=trivial;rotate_left;intro _ k _ l;obtain rfl:=l (by decide);intro a r f hd K I;have J:a 6=_:=hd ⟨6,.data⟩ (by simp) rfl;have f:Below wd.heap.size wd r:=f;have O:=bg.out.below f bg.out.lt;have e0:=O.cell 4;have fn:=O.cell 5;have fc:=O.cell 6;have G:=trivial;rotate_left
  ·intro _ k _ l
   obtain rfl:=l (by decide);intro a r f hd K I;have f:Below wd.heap.size wd r:=f;have c0:a 7=_:=hd ⟨7,.data⟩ (by simp) rfl;(try dsimp only [frt]);(try simp only [c0]);go_simp;go_at_call 19;refine (fU r _ _ _ _ _ _ _ _ 40 (cL.out.belw (Qd.out.trans (f.mono Qd.out.size))) (by decide) (by decide) (t.out.belw (Qd.out.trans (f.mono Qd.out.size))) _ eg.out).mono ?_;rintro e9 wr ⟨rfl,a8⟩;have u:=I.out _ _ rfl a8;dsimp only [frt] at u;simp only [c0] at u;exact u
  intro _ k _ l;obtain rfl:=l (by decide);intro a r f hd K I;have J:a 5=_:=hd ⟨5,.data⟩ (by simp) rfl;have e8:a 8=aa U2:=hd ⟨8,.data⟩ (by simp) rfl;have G:=e8;rotate_left;intro _ k _ l;obtain rfl:=l (by decide);intro a r f hd K I;have J:a 1=_:=hd ⟨1,.data⟩ (by simp) rfl;have G:a 9=_:=hd ⟨9,.data⟩ (by simp) rfl;rotate_left
  ·intro _ k _ l
   obtain rfl:=l (by decide);intro a r f hd K I;have f:Below wd.heap.size wd r:=f;have c6:a 0=_:=hd ⟨0,.data⟩ (by simp) rfl;have bx:a 10=_:=hd ⟨10,.data⟩ (by simp) rfl;(try dsimp only [frt]);(try simp only [c6,bx]);go_simp;go_at_call 15;have dn:=Qd.out.trans (f.mono Qd.out.size);have hc:=HA.out.go r A3 n3 c3 C3 p3 d3 D3 q3 e3 (t.out.belw dn) (HM.out.belw dn) (en.out.blw f);dsimp only at hc;rw [<- Ei U1 U2] at hc;refine hc.mono ?_;rintro e9 wr ⟨A4,n4,c4,B4,m4,d4,C4,k4,e4,rfl,P,a8⟩;have u:=I.out _ _ ⟨A4,n4,c4,B4,m4,d4,C4,k4,e4,rfl,P⟩ a8;dsimp only [frt] at u;simp only [c6,bx] at u;exact u
  ·intro _ k _ l
   obtain rfl:=l (by decide);intro a r f hd K I;obtain ⟨A4,n4,c4,B4,m4,d4,C4,k4,e4,e5,P⟩:VAp x L' (a 11) r:=hd ⟨11,.data⟩ (by simp) rfl;(try dsimp only [frt]);(try simp only [e5]);go_simp;have u:=I.out _ _ ⟨A4,n4,c4,B4,m4,d4,C4,k4,e4,rfl,P⟩ (ae _);dsimp only [frt] at u;simp only [e5] at u;exact u
  ·intro _ k _ l
   obtain rfl:=l (by decide);intro a r f hd K I;obtain ⟨A4,n4,c4,B4,m4,d4,C4,k4,e4,e6,P⟩:VAp x L' (a 12) r:=hd ⟨12,.data⟩ (by simp) rfl;(try dsimp only [frt]);(try simp only [e6]);go_simp;have u:=I.out _ _ ⟨A4,n4,c4,B4,m4,d4,C4,k4,e4,rfl,P⟩ (ae _);dsimp only [frt] at u;simp only [e6] at u;exact u
  intro _ k l _
  (obtain rfl | rfl:=(show k=0\/k=1 by have l:k<=1:=l;omega)) <;> (intro a r f hd K I;obtain ⟨A4,n4,c4,B4,m4,d4,C4,k4,e4,e6,P⟩:VAp x L' (a 12) r:=hd ⟨12,.data⟩ (by simp) rfl;have J:=e6;have G:=trivial)
  rotate_left 2
  ·intro _ k _ l
   obtain rfl:=l (by decide);intro a r f hd K I;have f:Below wd.heap.size wd r:=f;(try dsimp only [frt]);go_simp;have u:=I.out (.pointer (some ⟨r.heap.size,0,none⟩)) (r.alloc (.cells #[.string ⟨#[]⟩,.slice none 0 0,.slice none 0 0,.slice none 0 0] 26)) ⟨r.heap.size,rfl,f.size,Blk.new _ _ _⟩ ((ae r).alloc Qr _);dsimp only [frt] at u;exact u
  intro _ k l _
  (obtain rfl | rfl:=(show k=0\/k=1 by have l:k<=1:=l;omega)) <;> (intro a r f hd K I;have J:a 14=_:=hd ⟨14,.data⟩ (by simp) rfl;have G:=trivial)
  rotate_left 2
  all_goals
   (try dsimp only [frt]);(try simp only [J,G]);go_simp;have u:=I.out _ _ rfl (ae _);dsimp only [frt] at u;(try simp only [J,G] at u);exact u
 ·intro k i o l ho
  obtain rfl:=(show k=0 by have:=ip l;have:k<1:=this;omega)
  ·injection l with l
   subst l;injection ho with ho;subst ho;intro a r DD hn f hD hd K I;have f:Below wd.heap.size wd r:=f;obtain ⟨g5,e9,ck,Q⟩:∃ x,a 15=.pointer (some ⟨x,0,none⟩)/\wd.heap.size<=x/\Blk r x 26 #[.string ⟨#[]⟩,.slice none 0 0,.slice none 0 0,.slice none 0 0]:=hd 15 (hD ⟨15,.data⟩ (by simp) rfl);obtain ⟨A4,n4,c4,B4,m4,d4,C4,k4,e4,e7,P⟩:VLv L' (a 13) r:=hd 13 (hD ⟨13,.data⟩ (by simp) rfl);have ey:=Q.c4;have eQ:=Q.f4;(try dsimp only [frt]);(try simp only [e7,e9]);go_simp;have t1:=lm Q ⟨rfl,rfl,rfl,rfl⟩ (aa L'.name) (.slice A4 n4 c4) (.slice B4 m4 d4) (.slice C4 k4 e4);have u:=I.out undef _ (show Below wd.heap.size wd _ from cO f ck (aa L'.name) (.slice A4 n4 c4) (.slice B4 m4 d4) (.slice C4 k4 e4)) trivial (cj.all ⟨fun h=>(hd 12 h:VAp x L' (a 12) r).tch1 t1,fun h=>hd 14 h,fun _=>⟨g5,A4,n4,c4,B4,m4,d4,C4,k4,e4,e9,ck,Q.s4 _ _ _ _,P.tch t1 (by decide) (by decide) (by decide) (by decide)⟩,fun h=>hd 17 h,trivial⟩);dsimp only [frt] at u;simp only [e7,e9] at u;exact u
 intro a w9 f hr;obtain ⟨g5,A4,n4,c4,B4,m4,d4,C4,k4,e4,e9,ck,Q,P⟩:VPl wd L' (a 15) w9:=hr 15 (by decide);have d9:a 17=bo x:=hr 17 (by decide);have f:Below wd.heap.size wd w9:=f;have V:=Qh (Qd.out.trans (f.mono Qd.out.size));have X9:=Qh (Xd.out.below f Xd.out.lt);have X5:=Qh Q;have HY:=Qh P;clear hr f Q P HA kA kB;dsimp only [frt];rw [e9,d9];generalize a 0=z0;generalize a 1=z1;generalize a 2=z2;generalize a 3=z3;generalize a 4=z4;generalize a 5=z5;generalize a 6=z6;generalize a 7=z7;generalize a 8=z8;generalize a 9=z9;generalize a 10=z10;generalize a 11=z11;generalize a 12=z12;generalize a 13=z13;generalize a 14=z14;generalize a 16=z16;clear e9 d9;rcases HX.out with O | ⟨O,hl⟩
 ·rw [O,eVp (show (4:Int)≠0 by decide)]
  clear O;go_wp2_with fail;refine (ES _ 4).mono ?_;rintro e' wc ⟨rfl,ao⟩;go_wp2;go_ret;exact ⟨rfl,V.out.trans (ao.mono V.out.size)⟩
 rw [hl] at X5 HY;rw [O,aO];have H9:=Qh (HW.out.belw V.out);obtain ⟨m0,m1,m2,m3⟩:=X5.out.c4;obtain ⟨a0,a1,a2,a3⟩:=X9.out.c4;obtain ⟨aS,a6,aT⟩:=HY.out.len;have LL:=Qh (And.intro aS (And.intro a6 aT));clear aS a6 aT O hl;go_wp2_with fail;refine (sy w9 A4 n4 c4 B4 m4 d4 C4 k4 e4 L (HY.out.out.upto (by decide)) (some ⟨g8,o8,none⟩) n c C p d D q e L (H9.out.upto (by decide)) E.out.np (by have:=E.out.nb;have:=LL.out.1;omega) (by have:=E.out.nj;have:=LL.out.2.1;omega) (by have:=E.out.nd;have:=LL.out.2.2;omega) true (by simp)).mono ?_;rintro e' wc ⟨rfl,ao⟩;go_wp2;go_ret;exact ⟨rfl,V.out.trans (ao.mono V.out.size)⟩

end Go.Proofs.YtndhgcfajlalhaaGreatDoor
