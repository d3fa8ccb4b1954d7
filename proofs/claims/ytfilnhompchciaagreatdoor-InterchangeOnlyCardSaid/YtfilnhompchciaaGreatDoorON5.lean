import Derived.Test.YtfilnhompchciaaGreatDoorCards
import Derived.Test.YtfilnhompchciaaGreatDoorTie
import Derived.ProofKit
import Derived.WalkKit
import Derived.OpenShut
import Derived.Deep.DeepHandedRow
import Derived.Lib.LaidTab
import Derived.Shelf.Vars
import Derived.Deep.Slices
import Derived.SizedLaws
import Derived.Lib.TrailingZeros
import Derived.LaidLaws
import Derived.ChangeMaps5
import Derived.Test.YtfilnhompchciaaGreatDoorON4
set_option linter.unusedVariables false
set_option maxHeartbeats 8000000
set_option maxRecDepth 100000
/- Walks: Unpack at any text. -/
namespace Go.Proofs.YtfilnhompchciaaGreatDoor
open Go Go.RowKit Bn
attribute [local go_sem ↓] Go.wp_at_zero Go.wp_at_succ
theorem uL {k:Nat}(w:World):SlS (fo k) 4 w none 0 0 []:=⟨rfl,Qr,fun h=>absurd h (by omega)⟩
def dl (k:Nat) (w:World) (v:Value) (Ls:List aj) (e:Ending) (w':World):Prop:=∃ A m c,e=.returned (.tuple #[.slice A m c,v])∧SlS (fo k) 4 w' A m c Ls∧Below w.heap.size w w'
theorem dl.err {k:Nat}{w w':World}{v u:Value}{Ls:List aj}(hv:u=v) (hl:Ls=[]) (hb:Below w.heap.size w w'):dl k w v Ls (.returned (.tuple #[.slice none 0 0,u])) w':=⟨none,0,0,by rw [hv],by rw [hl];exact uL _,hb⟩
theorem pr {R:List UInt8}{m:Nat}{X N:List UInt8}(h:kN R m X N):Lib.cut R [10]=(Lib.itoa (m:Int) ++ 32 :: X,N,true)∧Lib.cut (Lib.itoa (m:Int) ++ 32 :: X) [32]=(Lib.itoa (m:Int),X,true):=by
 obtain ⟨_,_,hx,hS⟩:=h;refine ⟨?_,cZ (mT (by decide))⟩;rw [hS,show Lib.itoa (m:Int) ++ 32 :: (X ++ 10 :: N)=(Lib.itoa (m:Int) ++ 32 :: X) ++ 10 :: N by simp];refine cZ fun hm=>?_
 rcases List.mem_append.1 hm with hm | hm
 ·exact mT (by decide) hm
 rcases List.mem_cons.1 hm with hm | hm
 ·revert hm;decide
 have:=hx 10 hm;revert this;decide
theorem rV (w:World) (S:List UInt8) (hS:S.length < 9223372036854775808) (he:Env w) (x:Int) (Ls:List aj) (h:rT S x Ls):Calls Tryz.prog 18 #[af S] w (dl 130 w (ba x) Ls):=by
 have HE:=Qh he;clear he;obtain ⟨i0,hi0,hz0,hz1,hz2⟩:=info_parts tw;have HI0:=Qh (And.intro hi0 (And.intro hz0 (And.intro hz1 hz2)));clear hi0 hz0 hz1 hz2;obtain ⟨y,n,R0,hb,⟨hy,rfl,rfl⟩ | ⟨rfl,Ms,hu,hLs⟩⟩:=h
 ·have HB:=Qh hb
  have HY:=Qh hy;clear hb hy;go_in;go_wp2_with fail;(with_reducible refine (nT w S hS HE.out x n R0 HB.out).mono ?_);rintro e' w1 ⟨rfl,q1⟩;rw [eVp HY.out];go_wp2_with fail;go_ret2;exact dl.err (eVp HY.out).symm rfl q1
 have hn16:n≤16∧R0.length≤65536:=by
  rcases hb with ⟨_,e,_⟩ | ⟨_,_,e,_⟩ | ⟨_,_,e,_⟩ | ⟨hl,hn,hSn,_⟩
  ·cases e
  ·cases e
  ·cases e
  refine ⟨hn,?_⟩;rw [hSn,List.length_append] at hl;omega
 have hn:=hn16.1;have HB:=Qh hb;have HU:=Qh hu;have HLS:=Qh hLs;have HR0:=Qh hn16.2;clear hb hu hLs hn16;go_in;go_wp2_with fail;(with_reducible refine (nT w S hS HE.out 0 n R0 HB.out).mono ?_);rintro e' w1 ⟨rfl,q1⟩;rw [bH];go_wp2_with fail;go_loopw [5,7,31] (fun rv ov iv wr=>∃ (i:Nat) (R:List UInt8) (As Bs:List aj),rv=af R∧iv=.int .i64 (i:Nat)∧i≤n∧po 130 wr w.heap.size ov i As∧Hid (UnF (n - i) R x Bs∧As ++ Bs=Ms∧R.length≤65536)∧Below w.heap.size w wr) (fun _ _ iv _=>n - (intOf iv).toNat)
 case atStart=>exact ⟨0,R0,[],Ms,rfl,rfl,Nat.zero_le _,aO.nil,Qh ⟨HU.out,rfl,HR0.out⟩,q1⟩
 case round =>
  clear q1;obtain ⟨i,R,As,Bs,rfl,rfl,hi,hrow,HX,q1⟩:=hrel;rename World=>wa;obtain ⟨A0,c0,rfl,hic⟩:=hrow.form;have HRow:=Qh hrow;clear hrow;rcases Nat.lt_or_ge i n with hlt | hge
  ·have hi1:((i:Int) < (n:Int))=True:=by simp;omega
   obtain ⟨hun,hAB,hRl⟩:=HX.out;rw [show n - i=(n - (i+1))+1 by omega] at hun;obtain ⟨y,L,R',hone,hy⟩:=hun;rcases hone with ⟨hno,rfl,rfl,rfl⟩ | ⟨m,X,N,hline,hrest⟩
   ·obtain ⟨_,rfl,rfl⟩ | ⟨e,_⟩:=hy
    rotate_left
    ·cases e
    have hl0:Ls=[]:=by rw [HLS.out,if_neg (by decide)]
    have HN:=Qh hno;have HL0:=Qh hl0;clear hno hl0 HX hAB;rcases cut_cases 10 R with ⟨Ln,N,hLn,hRn⟩ | hnl
    ·have hc:Lib.cut R [10]=(Ln,N,true):=by rw [hRn];exact cZ hLn
     have hLl:Ln.length≤65536:=by rw [hRn,List.length_append] at hRl;omega
     have HC:=Qh (And.intro hc hRl);have HRN:=Qh hRn;clear hc hLn hRn hRl;rcases cut_cases 32 Ln with ⟨I,X,hI,hLX⟩ | hnl
     ·have hc2:Lib.cut Ln [32]=(I,X,true):=by rw [hLX];exact cZ hI
      have hIl:I.length≤65536∧X.length≤65536:=by rw [hLX,List.length_append,List.length_cons] at hLl;omega
      have HC2:=Qh (And.intro hc2 (And.intro hLl hIl));have HLX:=Qh hLX;obtain ⟨v,hv⟩:∃ v:Bool,v=true ↔ X.length=8∧∀ c∈X,kE.contains c=true:=⟨decide (X.length=8∧∀ c∈X,kE.contains c=true),by simp⟩;have HV:=Qh hv;clear hc2 hLl hIl hLX hI hv;go_wp2_with fail;(with_reducible refine (dh wa R 10 Ln N true (HE.out.mx.belw q1) HC.out.2 HC.out.1).mono ?_);rintro e' w2 ⟨rfl,hb2⟩;have q2:=ag q1 hb2;go_wp2_with fail;(with_reducible refine (dh w2 Ln 32 I X true (HE.out.mx.belw q2) HC2.out.2.1 HC2.out.1).mono ?_);rintro e' w3 ⟨rfl,hb3⟩;have q3:=ag q2 hb3;go_wp2_with fail;(with_reducible refine (gi w3 I HC2.out.2.2.1 (HE.out.ev.belw q3) (HE.out.tab.belw q3)).mono ?_);rintro e' w4 ⟨z,b4,rfl,hz,hb4⟩;have q4:=ag q3 hb4;have HZ:=Qh hz;clear hz hb2 hb3 hb4;cases b4
      ·go_wp2_with fail
       go_ret2;exact dl.err (eVp (by decide)).symm HL0.out q4
      go_wp2_with fail;(with_reducible refine (nS w4 X HC2.out.2.2.2 v HV.out).mono ?_);rintro e' w5 ⟨rfl,hb5⟩;have q5:=ag q4 hb5;cases v
      ·go_wp2_with fail
       go_ret2;exact dl.err (eVp (by decide)).symm HL0.out q5
      obtain ⟨m,hm,_,hIm⟩:=HZ.out (by first | exact rfl | exact True.intro)
      obtain ⟨h8,hx⟩:=HV.out.1 (by first | exact rfl | exact True.intro)
      refine absurd ⟨hm,h8,hx,?_⟩ (HN.out m X N);rw [HRN.out,HLX.out,hIm];simp
     have hc2:Lib.cut Ln [32]=(Ln,[],false):=dT hnl;have HC2:=Qh (And.intro hc2 hLl);clear hc2 hLl hnl;go_wp2_with fail;(with_reducible refine (dh wa R 10 Ln N true (HE.out.mx.belw q1) HC.out.2 HC.out.1).mono ?_);rintro e' w2 ⟨rfl,hb2⟩;have q2:=ag q1 hb2;go_wp2_with fail;(with_reducible refine (dh w2 Ln 32 Ln [] false (HE.out.mx.belw q2) HC2.out.2 HC2.out.1).mono ?_);rintro e' w3 ⟨rfl,hb3⟩;have q3:=ag q2 hb3;go_wp2_with fail;(with_reducible refine (gi w3 Ln HC2.out.2 (HE.out.ev.belw q3) (HE.out.tab.belw q3)).mono ?_);rintro e' w4 ⟨z,b4,rfl,_,hb4⟩;have q4:=ag q3 hb4;clear hb2 hb3 hb4;go_wp2_with fail;go_ret2;exact dl.err (eVp (by decide)).symm HL0.out q4
    have hc:Lib.cut R [10]=(R,[],false):=dT hnl;have HC:=Qh (And.intro hc hRl);clear hc hRl hnl
    obtain ⟨I,X,f,hc2,hIl⟩:∃ I X f,Lib.cut R [32]=(I,X,f)∧I.length≤65536:=by
     rcases cut_cases 32 R with ⟨I,X,hI,hLX⟩ | hnl
     ·exact ⟨I,X,true,by rw [hLX];exact cZ hI,by have:=HC.out.2;rw [hLX,List.length_append] at this;omega⟩
     exact ⟨R,[],false,dT hnl,HC.out.2⟩
    have HC2:=Qh (And.intro hc2 hIl);clear hc2 hIl;go_wp2_with fail;(with_reducible refine (dh wa R 10 R [] false (HE.out.mx.belw q1) HC.out.2 HC.out.1).mono ?_);rintro e' w2 ⟨rfl,hb2⟩;have q2:=ag q1 hb2;go_wp2_with fail;(with_reducible refine (dh w2 R 32 I X f (HE.out.mx.belw q2) HC.out.2 HC2.out.1).mono ?_);rintro e' w3 ⟨rfl,hb3⟩;have q3:=ag q2 hb3;go_wp2_with fail;(with_reducible refine (gi w3 I HC2.out.2 (HE.out.ev.belw q3) (HE.out.tab.belw q3)).mono ?_);rintro e' w4 ⟨z,b4,rfl,_,hb4⟩;have q4:=ag q3 hb4;clear hb2 hb3 hb4;go_wp2_with fail;go_ret2;exact dl.err (eVp (by decide)).symm HL0.out q4
   obtain ⟨hc1,hc2⟩:=pr hline;have hm5:=hline.1;obtain ⟨Ln,hLn⟩:∃ Ln,Lib.itoa (m:Int) ++ 32 :: X=Ln:=⟨_,rfl⟩;obtain ⟨I,hI⟩:∃ I,Lib.itoa (m:Int)=I:=⟨_,rfl⟩;rw [hLn] at hc1 hc2;rw [hI] at hc2
   have hRN:R.length=Ln.length+(N.length+1):=by
    rw [hline.2.2.2,← hLn];simp only [List.length_append,List.length_cons];omega
   have HC:=Qh (And.intro hc1 (And.intro hc2 (show R.length≤65536∧Ln.length≤65536∧N.length≤65536 by omega)));have HLI:=Qh hline;have HI:=Qh hI;have HXv:=Qh (And.intro hline.2.1 hline.2.2.1);have hXl:X.length≤65536:=by rw [hline.2.1];decide
   have zN:=ai N;have HRest:=Qh hrest;have HY:=Qh hy;have HAB:=Qh hAB;clear hc1 hc2 hLn hI hRN hline hrest hy hAB HX hRl;have e1:m≤N.length→(⟨N.toArray⟩:ByteArray).extract 0 m=⟨(N.take m).toArray⟩:=fun _=>by rw [gN,List.drop_zero,Nat.sub_zero]
   have HE1:=Qh e1;clear e1;go_wp2_with fail;(with_reducible refine (dh wa R 10 Ln N true (HE.out.mx.belw q1) HC.out.2.2.1 HC.out.1).mono ?_);rintro e' w2 ⟨rfl,hb2⟩;have p2:=hb2;go_wp2_with fail;(with_reducible refine (dh w2 Ln 32 I X true (HE.out.mx.belw (ag q1 p2)) HC.out.2.2.2.1 HC.out.2.1).mono ?_);rintro e' w3 ⟨rfl,hb3⟩;have p3:=ag p2 hb3;clear p2 hb2 hb3;go_wp2_with fail;(with_reducible refine (kF w3 m hm5 I HI.out (HE.out.tab.belw (ag q1 p3))).mono ?_);rintro e' w4 ⟨rfl,hb4⟩;have p4:=ag p3 hb4;clear p3 hb4;go_wp2_with fail;(with_reducible refine (nS w4 X hXl true ⟨fun _=>HXv.out,fun _=>rfl⟩).mono ?_);rintro e' w5 ⟨rfl,hb5⟩;have p5:=ag p4 hb5;clear p4 hb5;by_cases hNm:N.length < m
   ·have fN:((N.length:Int) < (m:Int))=True:=eq_true (by omega)
    have hx:y=18:=by
     rcases HRest.out with ⟨_,h,_⟩ | ⟨h,_⟩ | ⟨h,_⟩
     ·exact h
     ·omega
     omega
    obtain ⟨_,rfl,rfl⟩ | ⟨e,_⟩:=HY.out
    rotate_left
    ·rw [hx] at e;cases e
    subst hx;have HL0:Hid (Ls=[]):=Qh (by rw [HLS.out,if_neg (by decide)]);go_wp2_with fail;go_ret2;exact dl.err (eVp (by decide)).symm HL0.out (ag q1 p5)
   have fN:((N.length:Int) < (m:Int))=False:=eq_false (by omega);have hmN:m≤N.length:=Nat.le_of_not_lt hNm;have e1:=HE1.out hmN;have hTl:(N.take m).length≤65536:=by have:=HC.out.2.2.2.2;rw [List.length_take];omega
   have e2:(⟨N.toArray⟩:ByteArray).extract m N.length=⟨(N.drop m).toArray⟩:=by rw [gN];rw [List.take_of_length_le (by rw [List.length_drop];exact Qr)]
   obtain ⟨T,hT⟩:∃ T,N.take m=T:=⟨_,rfl⟩;obtain ⟨D,hD⟩:∃ D,N.drop m=D:=⟨_,rfl⟩;have hDl:D.length≤65536:=by have:=HC.out.2.2.2.2;rw [← hD,List.length_drop];omega
   rw [hT] at e1 hTl;rw [hD] at e2;have hrest:=HRest.out;rw [hT,hD] at hrest;have HR2:=Qh hrest;have HDl:=Qh hDl;have zT:=ai T;clear HRest hrest hT hD hDl HE1;go_wp2_with fail;(with_reducible refine (ry w5 T (by omega)).mono ?_);rintro e' w6 ⟨rfl,hb6⟩;have p6:=ag p5 hb6;clear p5 hb6;go_wp2_with fail;(with_reducible refine (tJ w6 (fP T) (nH T) (HE.out.t64.belw (ag q1 p6))).mono ?_);rintro e' w7 ⟨rfl,hb7⟩;have p7:=ag p6 hb7;clear p6 hb7;obtain ⟨Z,hZ⟩:∃ Z,ji (fP T)=Z:=⟨_,rfl⟩;rw [hZ];by_cases hZX:Z=X;rotate_left
   ·have fZ:(Z == X)=false:=beq_eq_false_iff_ne.2 hZX
    have hx:y=14:=by
     rcases HR2.out with ⟨h,_⟩ | ⟨_,_,h,_⟩ | ⟨_,h,_⟩
     ·omega
     ·exact h
     exact absurd (hZ.symm.trans h) hZX
    obtain ⟨_,rfl,rfl⟩ | ⟨e,_⟩:=HY.out
    rotate_left
    ·rw [hx] at e;cases e
    subst hx;have HL0:Hid (Ls=[]):=Qh (by rw [HLS.out,if_neg (by decide)]);go_wp2_with fail;go_ret2;exact dl.err (eVp (by decide)).symm HL0.out (ag q1 p7)
   subst hZX
   obtain ⟨u,M,hRO,hcs⟩:∃ u M,cG T u M∧((u≠0∧y=u∧L=L0∧R'=[])∨(u=0∧(aJ M≠0∨bZ M≠T)∧y=2∧L=L0∧R'=[])∨(u=0∧aJ M=0∧bZ M=T∧y=0∧L=M∧R'=D)):=by
    rcases HR2.out with ⟨h,_⟩ | ⟨_,h,_⟩ | ⟨_,_,h⟩
    ·omega
    ·exact absurd hZ h
    exact h
   have HRO:=Qh hRO;have HQC:=Qh hcs;clear hRO hcs HR2 hZ;go_wp2_with fail;(with_reducible refine (mc w7 T u M (HE.out.mx.belw (ag q1 p7)) HRO.out).mono ?_);rintro e' w8 ⟨A1,n1,c1,B1,m1,d1,C1,k1,e1',rfl,hYk,hb8⟩;have p8:=ag p7 hb8;have HYk:=Qh hYk;clear p7 hb8 hYk;by_cases hu0:u=0;rotate_left
   ·rw [eVp hu0]
    have hx:y=u:=by
     rcases HQC.out with ⟨_,h,_⟩ | ⟨h,_⟩ | ⟨h,_⟩
     ·exact h
     ·exact absurd h hu0
     exact absurd h hu0
    obtain ⟨_,rfl,rfl⟩ | ⟨e,_⟩:=HY.out
    rotate_left
    ·rw [hx] at e;exact absurd e hu0
    subst hx;have HL0:Hid (Ls=[]):=Qh (by rw [HLS.out,if_neg hu0]);go_wp2_with fail;go_ret2;exact dl.err (eVp hu0).symm HL0.out ((ag q1 p8).alloc (ag q1 p8).size _)
   subst hu0;rw [bH];go_wp2_with fail;have xl:Blk (w8.alloc (.cells #[af M.name,.slice A1 n1 c1,.slice B1 m1 d1,.slice C1 k1 e1'] 36)) w8.heap.size 36 #[af M.name,.slice A1 n1 c1,.slice B1 m1 d1,.slice C1 k1 e1']:=am _ _ _ rfl;have pl:Below w8.heap.size w8 (w8.alloc (.cells #[af M.name,.slice A1 n1 c1,.slice B1 m1 d1,.slice C1 k1 e1'] 36)):=(aa w8).alloc Qr _;have HYb:Hid (LkY 130 (w8.alloc (.cells #[af M.name,.slice A1 n1 c1,.slice B1 m1 d1,.slice C1 k1 e1'] 36)) A1 n1 c1 B1 m1 d1 C1 k1 e1' M):=Qh (HYk.out.tch (Tch.below (T:=fun _=>false) pl) rfl rfl rfl rfl);have p9:=ag p8 pl;generalize (w8.alloc (.cells #[af M.name,.slice A1 n1 c1,.slice B1 m1 d1,.slice C1 k1 e1'] 36))=w9 at xl HYb p9 ⊢;clear p8 pl HYk;(with_reducible refine (tL w9 A1 n1 c1 B1 m1 d1 C1 k1 e1' M (HYb.out.out.upto (by decide)) (HE.out.tab.belw (ag q1 p9))).mono ?_);rintro e' wb ⟨rfl,hbb⟩;have pb:=ag p9 hbb;have qb:=ag q1 pb;by_cases hM0:aJ M=0;rotate_left
   ·rw [eVp hM0]
    have hx:y=2:=by
     rcases HQC.out with ⟨h,_⟩ | ⟨_,_,h,_⟩ | ⟨_,h,_⟩
     ·exact absurd rfl h
     ·exact h
     exact absurd h hM0
    obtain ⟨_,rfl,rfl⟩ | ⟨e,_⟩:=HY.out
    rotate_left
    ·rw [hx] at e;cases e
    subst hx;have HL0:Hid (Ls=[]):=Qh (by rw [HLS.out,if_neg (by decide)]);go_wp2_with fail;go_ret2;exact dl.err (eVp (by decide)).symm HL0.out qb
   rw [show cl M=bZ M from if_pos hM0,hM0,bH];obtain ⟨G,hG⟩:∃ G,bZ M=G:=⟨_,rfl⟩;rw [hG];by_cases hGT:G=T;rotate_left
   ·have fG:(G == T)=false:=beq_eq_false_iff_ne.2 hGT
    have hx:y=2:=by
     rcases HQC.out with ⟨h,_⟩ | ⟨_,_,h,_⟩ | ⟨_,_,h,_⟩
     ·exact absurd rfl h
     ·exact h
     exact absurd (hG.symm.trans h) hGT
    obtain ⟨_,rfl,rfl⟩ | ⟨e,_⟩:=HY.out
    rotate_left
    ·rw [hx] at e;cases e
    subst hx;have HL0:Hid (Ls=[]):=Qh (by rw [HLS.out,if_neg (by decide)]);go_wp2_with fail;go_ret2;exact dl.err (eVp (by decide)).symm HL0.out qb
   have hok:y=0∧L=M∧R'=D:=by
    rcases HQC.out with ⟨h,_⟩ | ⟨_,h,_⟩ | ⟨_,_,_,h⟩
    ·exact absurd rfl h
    ·rcases h with h | h
     ·exact absurd hM0 h
     exact absurd (hG.trans hGT) h
    exact h
   obtain ⟨hy0,hLM,hRD⟩:=hok;obtain ⟨h,_⟩ | ⟨_,Ms',hun',hBs⟩:=HY.out
   ·exact absurd hy0 h
   subst hGT hLM hRD;have HUN:=Qh (And.intro hun' hBs);clear hG hM0 hy0 hun' hBs HQC;have xb:=xl.below hbb xl.lt;have HYc:Hid (LkY 130 wb A1 n1 c1 B1 m1 d1 C1 k1 e1' L):=Qh (HYb.out.tch (Tch.below (T:=fun _=>false) hbb) rfl rfl rfl rfl);have c00:=xb.c4;have hlb:w8.heap.size < wb.heap.size:=xb.lt;have HRb:=Qh (HRow.out.lkb pb);obtain ⟨hlen,xs,hown,hrc⟩:=HRb.out;have hqs:=qb.size;clear p9 hbb xl HYb HRow pb;go_wp2_with (at_builtin;refine cQ _ rfl noW _ _ _ rfl w.heap.size 36 i0 (.agg #[.string ⟨#[]⟩,.slice none 0 0,.slice none 0 0,.slice none 0 0]) 4 88 Tryz.underlying22 HI0.out.1 HI0.out.2.1 HI0.out.2.2.1 HI0.out.2.2.2 rfl (by omega) rfl _ i xs rfl (hown.belw ((Below.refl _ _).alloc Qr _)) ⟨wb.heap.size,0,none⟩ 1 1 [_,_,_,_] rfl rfl (World.news_of_block (heap_alloc_new wb _)) (by simp [Value.oneCell']) rfl (by omega) (by unfold maxLen;omega) (by omega) (by simp;omega) ?_;intro gx cap wz hown1 hgrow hor);have pa:Below wb.heap.size wb (wb.alloc (.cells #[af L.name,.slice A1 n1 c1,.slice B1 m1 d1,.slice C1 k1 e1'] 36)):=(aa wb).alloc Qr _;have ta:=Tch.below (T:=fun _=>false) pa
   have hmore:po 130 wz w.heap.size (.slice (some ⟨gx,0,none⟩) (i+1) cap) (i+1) (As ++ [L]) :=
    aO.more hlen (hown.belw pa) (hrc.map_ fun _ _ x=>x.tch ta rfl rfl rfl rfl) ⟨A1,n1,c1,B1,m1,d1,C1,k1,e1',rfl,HYc.out.tch ta rfl rfl rfl rfl⟩ hown1 hgrow rfl
   have hbz:Below w.heap.size w wz:=(qb.alloc qb.size _).grown hgrow (by simp;omega) (cX hown.own);go_roundw
   case rel=>exact ⟨i+1,R',As ++ [L],Ms',rfl,by go_num,by omega,hmore,Qh ⟨HUN.out.1,by rw [← HAB.out,HUN.out.2];simp,HDl.out⟩,hbz⟩
   case measure=>simp [intOf];omega
  obtain ⟨hun,hAB,hRl⟩:=HX.out;obtain rfl:i=n:=by omega
  rw [Nat.sub_self] at hun;obtain ⟨rfl,hx⟩:=hun;have hi1:((i:Int) < (i:Int))=False:=by simp
  by_cases hR:R=[]
  ·subst hR
   rw [if_pos rfl] at hx;subst hx;rw [List.append_nil] at hAB;have HQ:Hid (Ls=As):=Qh (by rw [HLS.out,if_pos rfl,hAB]);clear hAB HX hRl;go_wp2_with fail;go_ret2;exact ⟨A0,i,c0,rfl,by rw [HQ.out];exact HRow.out.lks,q1⟩
  have hR0:(R == [])=false:=beq_eq_false_iff_ne.2 hR;rw [if_neg hR] at hx;subst hx;have HQ:Hid (Ls=[]):=Qh (by rw [HLS.out,if_neg (by decide)]);clear hAB HX hRl;go_wp2_with fail;go_ret2;exact dl.err (eVp (by decide)).symm HQ.out q1
theorem uM (w:World) (S:List UInt8) (hS:S.length < 9223372036854775808) (htab:Tab w) (hmx:Mx w) (ht6:T64 w) (hev:Ev w):Calls Tryz.prog 5 #[af S] w (aE w (.bool true)):=by
 have HE:Hid (Env w):=Qh ⟨htab,ht6,hmx,hev⟩;have zS:=ai S;clear htab hmx ht6 hev;by_cases h4:4000 < S.length
 ·have f4:((4000:Int) < (S.length:Int))=True:=eq_true (by omega)
  go_in;go_wp2_with fail;(with_reducible refine (gI w HE.out.tab HE.out.t64).mono ?_);rintro e' w1 ⟨rfl,q1⟩;go_wp2_with fail;(with_reducible refine (gI w1 (HE.out.tab.belw q1) (HE.out.t64.belw q1)).mono ?_);rintro e' w2 ⟨rfl,hb2⟩;have q2:=ag q1 hb2;go_wp2;go_ret;exact ⟨rfl,q2⟩
 have f4:((4000:Int) < (S.length:Int))=False:=eq_false (by omega);obtain ⟨x,Ls,hu⟩:=uG th S;have HU:=Qh hu;clear hu;go_in;go_wp2_with fail;(with_reducible refine (gI w HE.out.tab HE.out.t64).mono ?_);rintro e' w1 ⟨rfl,q1⟩;go_wp2_with fail;(with_reducible refine (rV w1 S hS (HE.out.belw q1) x Ls HU.out).mono ?_);rintro e' w2 ⟨A,m,c,rfl,hL,hb2⟩;have q2:=ag q1 hb2;by_cases hx:x=0
 ·subst hx
  obtain ⟨hSb,hP,h16,_⟩:=pq HU.out;have hln:=hL.1;have HL:=Qh hL;have HP:=Qh (And.intro hP (show eE Ls=S from (if_pos hP).trans hSb.symm));rw [bH];clear hSb hP hL;go_wp2_with fail;(with_reducible refine (nJ w2 A m c Ls (HL.out.lkup (by decide)) (HE.out.tab.belw q2) (HE.out.t64.belw q2) (by omega)).mono ?_);rintro e' w3 ⟨rfl,hb3⟩;have q3:=ag q2 hb3;rw [HP.out.1,HP.out.2,bH];go_wp2;go_ret;exact ⟨rfl,q3⟩
 ·have hl0:Ls=[]:=by
   obtain ⟨y,n,R,hb,⟨_,_,e⟩ | ⟨_,Ms,_,e⟩⟩:=HU.out
   ·exact e
   rw [e,if_neg hx]
  have hm:m=0:=by rw [← hL.1,hl0];rfl
  subst hm;rw [eVp hx];clear hL;go_wp2;go_ret;exact ⟨rfl,q2⟩
end Go.Proofs.YtfilnhompchciaaGreatDoor
namespace Go.Proofs.YtfilnhompchciaaGreatDoor
open Go Go.RowKit Bn Go.ChangeShapes Go.WideShapes
attribute [local go_sem ↓] Go.wp_at_zero Go.wp_at_succ

theorem iU {H:Type}{enc:TypeId × Value→H}{W:World}{P:Program}(hl:laidOutB P=true) {W':World}(hb:Below W.heap.size W W'):∀ {ts:List TypeId}{vs:List Value}{ds:List (DataW H)}{ps:List MemPlace},(ts.all fun t=>P.readableRec t && decide (t < P.types.size))=true →
 DataW.TrodAll enc P W 0 (fun _=>true) true ts vs ds ps→DataW.TrodAll enc P W' 0 (fun b=>decide (b < W.heap.size)) true ts vs ds ps
 | [],[],[],_,_,h=>h
 | _ :: _,_ :: _,_ :: _,_,hr,h=>by
  have hlt:=h.lt;obtain ⟨p,q,h1,h2,e⟩:=h;rw [List.all_cons,Bool.and_eq_true,Bool.and_eq_true,decide_eq_true_eq] at hr;exact ⟨p,q,Below.trod hl hr.1.1 hr.1.2 h1 hb (fun x hx=>hlt x (by rw [e];exact List.mem_append_left _ hx)),iU hl hb hr.2 h2,e⟩
 | [],[],_ :: _,_,_,h=>h.elim
 | [],_ :: _,_,_,_,h=>h.elim
 | _ :: _,[],_,_,_,h=>h.elim
 | _ :: _,_ :: _,[],_,_,h=>h.elim
theorem rX {H:Type}{enc:TypeId × Value→H}{W:World}{P:Program}{B:TypeId}{f:Func}{s:ChangeSpec}{W':World}{args:Array Value}{ds:List (DataW H)}{before:List MemPlace}(hl:laidOutB P=true) (hB:P.underlying B=some .bool)
 (hW:DataW.Whole enc P f.params.toList s.vars false W args.toList ds [] before) (hv:s.vars=[]) (hr:f.resultTypes=#[B]) (hp:(f.params.toList.all fun t=>P.readableRec t && decide (t < P.types.size))=true)
 (hres:(s.fn H (ds ++ [])).results=[.lit (.bool true)]) (hargs:(s.fn H (ds ++ [])).args=ds) (hvars:(s.fn H (ds ++ [])).vars=[]) (hb:Below W.heap.size W W') :
 s.post enc P f false true false false W args (.bool true) W':=by
 have hW':=hW;obtain ⟨p,q,hA,hV,rfl,_,_⟩:=hW;have hV':=hV;rw [hv] at hV';obtain ⟨_,rfl⟩:=trodVars_none hV';refine ⟨ds,[],_,[],p,[],hW',?_,?_,?_,hb.frame _,fun h=>by cases h⟩
 ·rw [hr,hres]
  exact trodAll_mk1 (shut_bool hB _)
 ·rw [hargs]
  exact iU hl hb hp hA
 rw [hv,hvars];rfl
theorem kO {P:Program}{f:FuncId}{fn:Func}{s:ChangeSpec}{c:OpenClaim}
 (h1:(c.wf (OpenSpec.ofChange s) && laidOutB P && mapsRowed P && fn.params.all (P.readableRec ·) && namedTie P c.named s.vars && (c.stops == []) && (P.stops == []) && (c.knobs == []) && (P.stopKnobs == []))=true)
 (h2:(c.inPlace == P.inPlace f)=true) (h3:(c.unfollowed == P.unfollowed f)=true) (h4:(c.recurses == P.recurses f)=true) (h5:(c.named == P.varsNamed f)=true)
 (h6:((c.maps == (fn.params.toList ++ s.plain.varTypes P).any (P.mapsRec ·)) && (c.ifaces == (fn.params.toList ++ s.plain.varTypes P).any (P.ifacesRec ·)) && (c.mapsOut == P.mapsAmong fn.resultTypes.toList) &&
  (c.loops == (fn.params.toList ++ s.plain.varTypes P).any (P.loopsFrom ·)) && (c.wideKeys == (fn.params.toList ++ s.plain.varTypes P ++ fn.resultTypes.toList).any (P.wideKeysFrom ·)) &&
  s.vars.all (P.varReadable ·) && fn.resultTypes.all (fun t=>P.readableRec t && decide (t < P.types.size)) && (c.ifacesOut == fn.resultTypes.toList.any (P.ifacesRec ·)) && (c.loopsOut == fn.resultTypes.toList.any (P.loopsFrom ·)) && (c.plainKeys == P.plainKeys) && c.shortTexts.isNone && P.stopsHeard && P.mayEnter && (c.lifted == P.liftsFinal) && (P.make == some c.make) && (c.kinds == (if c.domain.isEmpty then [] else fn.params.toList.map fun t=>match P.underlying t with | some (.int k)=>some k | _=>none)) && (c.pinned == c.pinnedBy) &&
  (c.veiled == (fn.params.toList ++ s.plain.varTypes P ++ fn.resultTypes.toList).any (P.veiledRec ·)) && c.veiledFits P fn.params.toList (fn.params.toList ++ s.plain.varTypes P ++ fn.resultTypes.toList))=true):joinedFacts P f fn s c=true:=by
 unfold joinedFacts;simp only [Bool.and_eq_true] at h1 h6 ⊢;obtain ⟨⟨⟨⟨⟨⟨⟨⟨a0,a1⟩,a2⟩,a3⟩,a4⟩,a5⟩,a6⟩,a7⟩,a8⟩:=h1;obtain ⟨⟨⟨⟨⟨⟨⟨⟨⟨⟨⟨⟨⟨⟨⟨⟨⟨⟨b0,b1⟩,b2⟩,b3⟩,b4⟩,b5⟩,b6⟩,b7⟩,b8⟩,b9⟩,b10⟩,b11⟩,b12⟩,b13⟩,b14⟩,b15⟩,b16⟩,b17⟩,b18⟩:=h6;exact ⟨⟨⟨⟨⟨⟨⟨⟨⟨⟨⟨⟨⟨⟨⟨⟨⟨⟨⟨⟨⟨⟨⟨⟨⟨⟨⟨⟨⟨⟨⟨a0,a1⟩,a2⟩,a3⟩,a4⟩,a5⟩,a6⟩,a7⟩,a8⟩,h2⟩,h3⟩,h4⟩,h5⟩,b0⟩,b1⟩,b2⟩,b3⟩,b4⟩,b5⟩,b6⟩,b7⟩,b8⟩,b9⟩,b10⟩,b11⟩,b12⟩,b13⟩,b14⟩,b15⟩,b16⟩,b17⟩,b18⟩
section
variable {H:Type}{enc:TypeId × Value→H}{W:World}{base:Nat}
end
theorem kP {W:World}(h:W.ShapedOpen Tryz.prog):∃ m,W.cell? ⟨0,0,none⟩=some (.int .i64 m) :=
 Go.Proofs.cell_of_shapedOpen_int (P:=Tryz.prog) (g:=0) (t:=3) (zero:=#[.int .i64 0]) h (of_decide_eq_true (by kernel_rfl)) (by kernel_rfl) rfl (by kernel_rfl) (by kernel_rfl) Tryz.underlying3
theorem vL : Tryz.prog.globalNamed "internal/strconv.uint64pow10" = some 1 := by kernel_rfl
theorem uN:(Tryz.prog.globals[1]?).map (·.type)=some 214:=by kernel_rfl
theorem pt:Tryz.prog.cellsOf 214=20:=by kernel_rfl
theorem pu:Tryz.prog.cellsOf 117=1:=by kernel_rfl
theorem rY {H:Type}:(Rows.laid_internal_strconv_uint64pow10:DataW H)=Lib.tabData .u64 Lib.pow10Tab:=by kernel_rfl
theorem mf {rest : List (String × DataW Unit)} {W : World} (h : laidMet Tryz.prog (("math/bits.deBruijn32tab", Rows.laid_math_bits_deBruijn32tab) :: ("math/bits.deBruijn64tab", Rows.laid_math_bits_deBruijn64tab) :: ("internal/strconv.uint64pow10", Rows.laid_internal_strconv_uint64pow10) :: rest) W) : Tab W := by
 obtain ⟨ps,⟨_,_,_,_,_,_,_,_,_,_,⟨_,_,_,_,_,_,_,_,_,_,⟨g,t,cs,f,p,q,hg,ht,hv,hd,_,_⟩,_⟩,_⟩,_,_⟩:=h;obtain rfl:=Option.some.inj (vL.symm.trans hg);obtain rfl:=Option.some.inj (uN.symm.trans ht);rw [rY] at hd;unfold Tab Lib.TabIs;rw [hv,← Lib.cells_of_tab Tryz.underlying214 Tryz.underlying117 pu pt hd]
noncomputable def low:Nat:=(World.holding Tryz.prog default ⟨#[],#[],[]⟩).heap.size
noncomputable def gM (os:Os):World :=
  let w0:=World.holding Tryz.prog os ⟨#[.cells #[.string ⟨#[118,97,108,117,101,32,111,117,116,32,111,102,32,114,97,110,103,101]⟩] 258,.cells #[.string ⟨#[105,110,118,97,108,105,100,32,115,121,110,116,97,120]⟩] 258],#[],[]⟩
  { w0 with heap:=(((((((w0.heap.modify 1 fun
      | .cells _ t frozen=>.cells (#[.int .u64 1,.int .u64 10,.int .u64 100,.int .u64 1000,.int .u64 10000,.int .u64 100000,.int .u64 1000000,.int .u64 10000000,.int .u64 100000000,.int .u64 1000000000,.int .u64 10000000000,.int .u64 100000000000,.int .u64 1000000000000,.int .u64 10000000000000,.int .u64 100000000000000,.int .u64 1000000000000000,.int .u64 10000000000000000,.int .u64 100000000000000000,.int .u64 1000000000000000000,.int .u64 10000000000000000000]) t frozen
      | o=>o).modify 6 fun
      | .cells _ t frozen=>.cells (#[.int .u8 0,.int .u8 1,.int .u8 28,.int .u8 2,.int .u8 29,.int .u8 14,.int .u8 24,.int .u8 3,.int .u8 30,.int .u8 22,.int .u8 20,.int .u8 15,.int .u8 25,.int .u8 17,.int .u8 4,.int .u8 8,.int .u8 31,.int .u8 27,.int .u8 13,.int .u8 23,.int .u8 21,.int .u8 19,.int .u8 16,.int .u8 7,.int .u8 26,.int .u8 12,.int .u8 18,.int .u8 6,.int .u8 11,.int .u8 5,.int .u8 10,.int .u8 9]) t frozen
      | o=>o).modify 7 fun
      | .cells _ t frozen=>.cells (#[.int .u8 0,.int .u8 1,.int .u8 56,.int .u8 2,.int .u8 57,.int .u8 49,.int .u8 28,.int .u8 3,.int .u8 61,.int .u8 58,.int .u8 42,.int .u8 50,.int .u8 38,.int .u8 29,.int .u8 17,.int .u8 4,.int .u8 62,.int .u8 47,.int .u8 59,.int .u8 36,.int .u8 45,.int .u8 43,.int .u8 51,.int .u8 22,.int .u8 53,.int .u8 39,.int .u8 33,.int .u8 30,.int .u8 24,.int .u8 18,.int .u8 12,.int .u8 5,.int .u8 63,.int .u8 55,.int .u8 48,.int .u8 27,.int .u8 60,.int .u8 41,.int .u8 37,.int .u8 16,.int .u8 46,.int .u8 35,.int .u8 44,.int .u8 21,.int .u8 52,.int .u8 32,.int .u8 23,.int .u8 11,.int .u8 54,.int .u8 26,.int .u8 40,.int .u8 15,.int .u8 34,.int .u8 20,.int .u8 31,.int .u8 10,.int .u8 25,.int .u8 14,.int .u8 19,.int .u8 9,.int .u8 13,.int .u8 8,.int .u8 7,.int .u8 6]) t frozen
      | o=>o).modify 5 fun
      | .cells _ t frozen=>.cells (#[.int .u8 128,.int .u8 191,.int .u8 160,.int .u8 191,.int .u8 128,.int .u8 159,.int .u8 144,.int .u8 191,.int .u8 128,.int .u8 143,.int .u8 0,.int .u8 0,.int .u8 0,.int .u8 0,.int .u8 0,.int .u8 0,.int .u8 0,.int .u8 0,.int .u8 0,.int .u8 0,.int .u8 0,.int .u8 0,.int .u8 0,.int .u8 0,.int .u8 0,.int .u8 0,.int .u8 0,.int .u8 0,.int .u8 0,.int .u8 0,.int .u8 0,.int .u8 0]) t frozen
      | o=>o).modify 4 fun
      | .cells _ t frozen=>.cells ((Go.Pinned.utf8FirstZ.map fun z:Nat=>Value.int .u8 (z:Int)).toArray) t frozen
      | o=>o).modify 3 fun
      | .cells _ t frozen=>.cells (#[.iface 256 (.pointer (some ⟨low,0,none⟩))]) t frozen
      | o=>o).modify 2 fun
      | .cells _ t frozen=>.cells (#[.iface 256 (.pointer (some ⟨low+1,0,none⟩))]) t frozen
      | o=>o) }
theorem rZ:ownKnob Tryz.prog.godebug=none:=by kernel_rfl
theorem sd:laidOutB Tryz.prog=true:=by kernel_rfl
section
variable {H:Type}{enc:TypeId × Value→H}{W:World}
def Szd (t:TypeId) (d:DataW H):Prop:=∀ n∈DataW.weights Tryz.prog t d,n≤reachBytes
theorem Szd.field {t:TypeId}{fs:Array Field}{xs:List (DataW H × List MemPlace)}(hu:Tryz.prog.underlying t=some (.struct fs)) (h:Szd t (.agg (xs.map (·.1)))) {i:Nat}{f:Field}{y:DataW H × List MemPlace}(hf:fs[i]?=some f) (hy:xs[i]?=some y):Szd f.type y.1:=by
 intro n hn;refine h n ?_;rw [DataW.weights,hu];exact DataW.weights_mem_each (j:=i) (t:=f.type) (d:=y.1) (by rw [List.getElem?_map,Array.getElem?_toList,hf];rfl) (by rw [List.getElem?_map,hy];rfl) n hn
theorem Szd.str {t:TypeId}{l:List UInt8}(h:Szd t (.lit (.string l):DataW H)):l.length≤reachBytes:=h _ (by simp [DataW.weights])
instance:Inhabited aA:=⟨⟨[],⟨false,[],[]⟩,⟨false,[],[]⟩⟩⟩
instance:Inhabited aq:=⟨⟨[],[]⟩⟩
instance:Inhabited aQ:=⟨⟨[],0,0,0,0,0,0⟩⟩
instance:Inhabited aU:=⟨⟨[],0⟩⟩
variable {base:Nat}
end
theorem tP : Tryz.prog.globalNamed "math/bits.deBruijn64tab" = some 7 := by kernel_rfl
theorem uO:(Tryz.prog.globals[7]?).map (·.type)=some 265:=by kernel_rfl
theorem pw:Tryz.prog.cellsOf 265=64:=by kernel_rfl
theorem se:Tryz.prog.cellsOf 5=1:=by kernel_rfl
theorem sh {H:Type}:(Rows.laid_math_bits_deBruijn64tab:DataW H)=Lib.tabData .u8 (Lib.deBruijn64tab.map fun z:Nat=>(z:Int)):=by kernel_rfl
theorem mg {rest : List (String × DataW Unit)} {W : World} (h : laidMet Tryz.prog (("math/bits.deBruijn32tab", Rows.laid_math_bits_deBruijn32tab) :: ("math/bits.deBruijn64tab", Rows.laid_math_bits_deBruijn64tab) :: rest) W) : T64 W := by
 obtain ⟨ps,⟨_,_,_,_,_,_,_,_,_,_,⟨g,t,cs,f,p,q,hg,ht,hv,hd,_,_⟩,_⟩,_,_⟩:=h;obtain rfl:=Option.some.inj (tP.symm.trans hg);obtain rfl:=Option.some.inj (uO.symm.trans ht);rw [sh] at hd
 have h9 : Lib.TabIs Tryz.prog W "math/bits.deBruijn64tab" .u8 (Lib.deBruijn64tab.map fun z : Nat => (z : Int)) := by
  unfold Lib.TabIs;rw [hv,← Lib.cells_of_tab Tryz.underlying265 Tryz.underlying5 se pw hd]
 exact h9.cell tP 15 (by decide)
section
variable {H:Type}{enc:TypeId × Value→H}{W:World}
instance:Inhabited aj:=⟨⟨[],[],[],[]⟩⟩
variable {base:Nat}
end
theorem iV {w:World}{n:String}{g0:Nat}{t0:TypeId}{ms:Array (String × TypeId)}{nm:String}{d:DataW Unit}{r:List (String × DataW Unit)}{ps:List MemPlace}(hg0:Tryz.prog.globalNamed n=some g0) (ht0:(Tryz.prog.globals[g0]?).map (·.type)=some t0) (hu:Tryz.prog.underlying t0=some (.interface ms)) (h:DataW.LaidVars Tryz.prog w ((n,.iface nm d) :: r) ps) :
 (∃ ev,w.cell? ⟨g0,0,none⟩=some ev∧(ev=.nilIface∨∃ te pe,ev=.iface te pe))∧∃ q,DataW.LaidVars Tryz.prog w r q:=by
 obtain ⟨g,t,cs,f,p,q,hg,ht,hv,hd,hr,_⟩:=h;obtain rfl:=Option.some.inj (hg0.symm.trans hg);obtain rfl:=Option.some.inj (ht0.symm.trans ht);obtain ⟨_,u,v,hcs,_,_⟩:=iface_of_trod hu hd;refine ⟨⟨.iface u v,?_,.inr ⟨u,v,rfl⟩⟩,q,hr⟩;have h9:=World.var?_cell hg0 hv 0;rw [h9,← Array.getElem?_toList,hcs];rfl
theorem eX {w:World}{x:String × DataW Unit}{r:List (String × DataW Unit)}{ps:List MemPlace}(h:DataW.LaidVars Tryz.prog w (x :: r) ps):∃ q,DataW.LaidVars Tryz.prog w r q:=by
 obtain ⟨n,d⟩:=x;obtain ⟨g,t,cs,f,p,q,_,_,_,_,hr,_⟩:=h;exact ⟨q,hr⟩
theorem nf {x1 x2 x3 x4 : String × DataW Unit} {rest : List (String × DataW Unit)} {W : World} (h : laidMet Tryz.prog (x1 :: x2 :: x3 :: x4 :: ("strconv.ErrRange", Rows.laid_strconv_ErrRange) :: ("strconv.ErrSyntax", Rows.laid_strconv_ErrSyntax) :: rest) W) : Ev W := by
 obtain ⟨ps,h,_,_⟩:=h;obtain ⟨_,h⟩:=eX h;obtain ⟨_,h⟩:=eX h;obtain ⟨_,h⟩:=eX h;obtain ⟨_,h⟩:=eX h;obtain ⟨h1,_,h⟩:=iV (g0:=3) (t0:=26) (by kernel_rfl) (by kernel_rfl) Tryz.underlying26 h;obtain ⟨h2,_,h⟩:=iV (g0:=2) (t0:=26) (by kernel_rfl) (by kernel_rfl) Tryz.underlying26 h;exact ⟨h2,h1⟩
end Go.Proofs.YtfilnhompchciaaGreatDoor
