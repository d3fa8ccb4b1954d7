/- Part GD3: lemmas and walks that the claim rests on. No claim is made here. -/
import Derived.BigQuiet
import Derived.Deep.RegionHeld3
import Derived.Deep.DrawnRows
import Derived.Deep.DeepCutAuto
import Derived.Lib.IndexMore
import Derived.Deep.AppendLies
import Derived.Shelf.Strings.Builder1
import Derived.Laws.IdiomStrings
import Derived.Test.YtfilnhompchciaaGreatDoorGD2
set_option linter.unusedVariables false
set_option maxHeartbeats 8000000
set_option maxRecDepth 100000
/- Walks: tokens: what a byte is. -/
namespace Go.Proofs.YtfilnhompchciaaGreatDoor
open Go Go.RowKit Bn
attribute [local go_sem ↓] Go.wp_at_zero Go.wp_at_succ
theorem je (c:UInt8):ct c=((decide (97≤c.toNat) && decide (c.toNat≤122)) || (decide (65≤c.toNat) && decide (c.toNat≤90))):=rfl
theorem kG (c:UInt8):bA c=(decide (48≤c.toNat) && decide (c.toNat≤57)):=rfl
theorem dn (w:World) (c:UInt8) (v:Bool) (hv:ct c=v):Calls Tryz.prog 110 #[.int .u8 (c.toNat:Nat)] w (aw w (.bool v)):=by
 have hc:c.toNat < 256:=c.toNat_lt;obtain ⟨n,hn⟩:∃ n,c.toNat=n:=⟨_,rfl⟩;rw [hn] at hc ⊢;have hd:v=((decide (97≤n) && decide (n≤122)) || (decide (65≤n) && decide (n≤90))):=by rw [← hv,je,hn]
 clear hv;rcases (show (0≤n∧n≤64)∨(65≤n∧n≤90)∨(91≤n∧n≤96)∨(97≤n∧n≤122)∨(123≤n∧n≤255) by omega) with ⟨ha,hb⟩ | ⟨ha,hb⟩ | ⟨ha,hb⟩ | ⟨ha,hb⟩ | ⟨ha,hb⟩
 ·have ege97:((97:Int)≤(n:Int))=False:=by simp;omega
  have ele122:((n:Int)≤122)=True:=by simp;omega
  have ege65:((65:Int)≤(n:Int))=False:=by simp;omega
  have ele90:((n:Int)≤90)=True:=by simp;omega
  obtain rfl:v=false:=by rw [hd];simp;omega
  clear hd hn;go_in;go_wp2;go_ret;exact bp rfl (ae w)
 ·have ege97:((97:Int)≤(n:Int))=False:=by simp;omega
  have ele122:((n:Int)≤122)=True:=by simp;omega
  have ege65:((65:Int)≤(n:Int))=True:=by simp;omega
  have ele90:((n:Int)≤90)=True:=by simp;omega
  obtain rfl:v=true:=by rw [hd];simp;omega
  clear hd hn;go_in;go_wp2;go_ret;exact bp rfl (ae w)
 ·have ege97:((97:Int)≤(n:Int))=False:=by simp;omega
  have ele122:((n:Int)≤122)=True:=by simp;omega
  have ege65:((65:Int)≤(n:Int))=True:=by simp;omega
  have ele90:((n:Int)≤90)=False:=by simp;omega
  obtain rfl:v=false:=by rw [hd];simp;omega
  clear hd hn;go_in;go_wp2;go_ret;exact bp rfl (ae w)
 ·have ege97:((97:Int)≤(n:Int))=True:=by simp;omega
  have ele122:((n:Int)≤122)=True:=by simp;omega
  have ege65:((65:Int)≤(n:Int))=True:=by simp;omega
  have ele90:((n:Int)≤90)=False:=by simp;omega
  obtain rfl:v=true:=by rw [hd];simp;omega
  clear hd hn;go_in;go_wp2;go_ret;exact bp rfl (ae w)
 have ege97:((97:Int)≤(n:Int))=True:=by simp;omega
 have ele122:((n:Int)≤122)=False:=by simp;omega
 have ege65:((65:Int)≤(n:Int))=True:=by simp;omega
 have ele90:((n:Int)≤90)=False:=by simp;omega
 obtain rfl:v=false:=by rw [hd];simp;omega
 clear hd hn;go_in;go_wp2;go_ret;exact bp rfl (ae w)
theorem dp (w:World) (c:UInt8) (v:Bool) (hv:ct c=v):Calls Tryz.prog 117 #[.int .u8 (c.toNat:Nat)] w (aw w (.bool v)):=by
 have hc:c.toNat < 256:=c.toNat_lt;obtain ⟨n,hn⟩:∃ n,c.toNat=n:=⟨_,rfl⟩;rw [hn] at hc ⊢;have hd:v=((decide (97≤n) && decide (n≤122)) || (decide (65≤n) && decide (n≤90))):=by rw [← hv,je,hn]
 clear hv;rcases (show (0≤n∧n≤64)∨(65≤n∧n≤90)∨(91≤n∧n≤96)∨(97≤n∧n≤122)∨(123≤n∧n≤255) by omega) with ⟨ha,hb⟩ | ⟨ha,hb⟩ | ⟨ha,hb⟩ | ⟨ha,hb⟩ | ⟨ha,hb⟩
 ·have ege97:((97:Int)≤(n:Int))=False:=by simp;omega
  have ele122:((n:Int)≤122)=True:=by simp;omega
  have ege65:((65:Int)≤(n:Int))=False:=by simp;omega
  have ele90:((n:Int)≤90)=True:=by simp;omega
  obtain rfl:v=false:=by rw [hd];simp;omega
  clear hd hn;go_in;go_wp2;go_ret;exact bp rfl (ae w)
 ·have ege97:((97:Int)≤(n:Int))=False:=by simp;omega
  have ele122:((n:Int)≤122)=True:=by simp;omega
  have ege65:((65:Int)≤(n:Int))=True:=by simp;omega
  have ele90:((n:Int)≤90)=True:=by simp;omega
  obtain rfl:v=true:=by rw [hd];simp;omega
  clear hd hn;go_in;go_wp2;go_ret;exact bp rfl (ae w)
 ·have ege97:((97:Int)≤(n:Int))=False:=by simp;omega
  have ele122:((n:Int)≤122)=True:=by simp;omega
  have ege65:((65:Int)≤(n:Int))=True:=by simp;omega
  have ele90:((n:Int)≤90)=False:=by simp;omega
  obtain rfl:v=false:=by rw [hd];simp;omega
  clear hd hn;go_in;go_wp2;go_ret;exact bp rfl (ae w)
 ·have ege97:((97:Int)≤(n:Int))=True:=by simp;omega
  have ele122:((n:Int)≤122)=True:=by simp;omega
  have ege65:((65:Int)≤(n:Int))=True:=by simp;omega
  have ele90:((n:Int)≤90)=False:=by simp;omega
  obtain rfl:v=true:=by rw [hd];simp;omega
  clear hd hn;go_in;go_wp2;go_ret;exact bp rfl (ae w)
 have ege97:((97:Int)≤(n:Int))=True:=by simp;omega
 have ele122:((n:Int)≤122)=False:=by simp;omega
 have ege65:((65:Int)≤(n:Int))=True:=by simp;omega
 have ele90:((n:Int)≤90)=False:=by simp;omega
 obtain rfl:v=false:=by rw [hd];simp;omega
 clear hd hn;go_in;go_wp2;go_ret;exact bp rfl (ae w)
theorem jN (w:World) (c:UInt8) (v:Bool) (hv:bA c=v):Calls Tryz.prog 187 #[.int .u8 (c.toNat:Nat)] w (aw w (.bool v)):=by
 have hc:c.toNat < 256:=c.toNat_lt;obtain ⟨n,hn⟩:∃ n,c.toNat=n:=⟨_,rfl⟩;rw [hn] at hc ⊢;have hd:v=(decide (48≤n) && decide (n≤57)):=by rw [← hv,kG,hn]
 clear hv;rcases (show (0≤n∧n≤47)∨(48≤n∧n≤57)∨(58≤n∧n≤255) by omega) with ⟨ha,hb⟩ | ⟨ha,hb⟩ | ⟨ha,hb⟩
 ·have ege48:((48:Int)≤(n:Int))=False:=by simp;omega
  have ele57:((n:Int)≤57)=True:=by simp;omega
  obtain rfl:v=false:=by rw [hd];simp;omega
  clear hd hn;go_in;go_wp2;go_ret;exact bp rfl (ae w)
 ·have ege48:((48:Int)≤(n:Int))=True:=by simp;omega
  have ele57:((n:Int)≤57)=True:=by simp;omega
  obtain rfl:v=true:=by rw [hd];simp;omega
  clear hd hn;go_in;go_wp2;go_ret;exact bp rfl (ae w)
 have ege48:((48:Int)≤(n:Int))=True:=by simp;omega
 have ele57:((n:Int)≤57)=False:=by simp;omega
 obtain rfl:v=false:=by rw [hd];simp;omega
 clear hd hn;go_in;go_wp2;go_ret;exact bp rfl (ae w)
theorem jO (w:World) (c:UInt8) (v:Bool) (hv:bA c=v):Calls Tryz.prog 134 #[.int .u8 (c.toNat:Nat)] w (aw w (.bool v)):=by
 have hc:c.toNat < 256:=c.toNat_lt;obtain ⟨n,hn⟩:∃ n,c.toNat=n:=⟨_,rfl⟩;rw [hn] at hc ⊢;have hd:v=(decide (48≤n) && decide (n≤57)):=by rw [← hv,kG,hn]
 clear hv;rcases (show (0≤n∧n≤47)∨(48≤n∧n≤57)∨(58≤n∧n≤255) by omega) with ⟨ha,hb⟩ | ⟨ha,hb⟩ | ⟨ha,hb⟩
 ·have ege48:((48:Int)≤(n:Int))=False:=by simp;omega
  have ele57:((n:Int)≤57)=True:=by simp;omega
  obtain rfl:v=false:=by rw [hd];simp;omega
  clear hd hn;go_in;go_wp2;go_ret;exact bp rfl (ae w)
 ·have ege48:((48:Int)≤(n:Int))=True:=by simp;omega
  have ele57:((n:Int)≤57)=True:=by simp;omega
  obtain rfl:v=true:=by rw [hd];simp;omega
  clear hd hn;go_in;go_wp2;go_ret;exact bp rfl (ae w)
 have ege48:((48:Int)≤(n:Int))=True:=by simp;omega
 have ele57:((n:Int)≤57)=False:=by simp;omega
 obtain rfl:v=false:=by rw [hd];simp;omega
 clear hd hn;go_in;go_wp2;go_ret;exact bp rfl (ae w)
def atB (s:List UInt8) (i:Nat):UInt8:=s.getD i 0
theorem jP {s:List UInt8}{i:Nat}(h:i < s.length):atB s i=s[i]:=by unfold atB;rw [List.getD_eq_getElem?_getD,List.getElem?_eq_getElem h];rfl
theorem jQ {s:List UInt8}{i:Nat}(h:s.length≤i):atB s i=0:=by unfold atB;rw [List.getD_eq_getElem?_getD,List.getElem?_eq_none h];rfl
theorem f9 {s:List UInt8}{i:Nat}(h:i < s.length):s.drop i=atB s i :: s.drop (i+1):=by rw [jP h];exact List.drop_eq_getElem_cons h
theorem fi {p:UInt8→Bool}{s:List UInt8}{i:Nat}(hp:p 0=false) (h:p (atB s i)=true):i < s.length∧((s.drop i).takeWhile p).length=1+((s.drop (i+1)).takeWhile p).length:=by
 have hl:i < s.length:=by
  rcases Nat.lt_or_ge i s.length with x | x
  ·exact x
  rw [jQ x,hp] at h;cases h
 refine ⟨hl,?_⟩;rw [f9 hl,List.takeWhile_cons,if_pos h,List.length_cons];omega
theorem jR {p:UInt8→Bool}{s:List UInt8}{i:Nat}(h:p (atB s i)=false):((s.drop i).takeWhile p).length=0:=by
 rcases Nat.lt_or_ge i s.length with x | x
 ·rw [f9 x,List.takeWhile_cons,if_neg (by rw [h];decide)];rfl
 rw [List.drop_eq_nil_of_le x];rfl
theorem kH {s:List UInt8}{i:Nat}(h:ct (atB s i)=true):i < s.length∧bI (s.drop i)=1+((s.drop (i+1)).takeWhile aB).length:=by
 have hl:i < s.length:=by
  rcases Nat.lt_or_ge i s.length with x | x
  ·exact x
  rw [jQ x] at h;cases h
 refine ⟨hl,?_⟩;rw [f9 hl,bI,if_pos h]
theorem kI {s:List UInt8}{i:Nat}(h:ct (atB s i)=false):bI (s.drop i)=0:=by
 rcases Nat.lt_or_ge i s.length with x | x
 ·rw [f9 x,bI,if_neg (by rw [h];decide)]
 rw [List.drop_eq_nil_of_le x];rfl
theorem gM {c:UInt8}(h:ct c=true):aB c=true:=by unfold aB;rw [h];rfl
theorem kJ {c:UInt8}(h:bA c=true):aB c=true:=by unfold aB;rw [h,Bool.or_true];rfl
theorem kK {c:UInt8}(h:(c == 95)=true):aB c=true:=by unfold aB;rw [h,Bool.or_true]
theorem kL {c:UInt8}(h1:ct c=false) (h2:bA c=false) (h3:(c == 95)=false):aB c=false:=by unfold aB;rw [h1,h2,h3];rfl
theorem gc (c d:UInt8):(((c.toNat:Nat):Int) == ((d.toNat:Nat):Int))=(c == d):=by
 by_cases h:c=d
 ·subst h;simp
 rw [beq_eq_false_iff_ne.2 h,beq_eq_false_iff_ne];intro e;exact h (UInt8.toNat.inj (by omega))
theorem pB (w:World) (c:UInt8) (v:Bool) (hv:aB c=v):Calls Tryz.prog 148 #[.int .u8 (c.toNat:Nat)] w (aw w (.bool v)):=by
 cases hl:ct c
 ·cases hd:bA c
  ·cases hu:(c == 95)
   ·obtain rfl:v=false:=by rw [← hv];exact kL hl hd hu
    have h95:(((c.toNat:Nat):Int) == 95)=false:=(gc c 95).trans hu;clear hv hu;go_in;go_wp2_with fail;(with_reducible refine (dn _ c false hl).mono ?_);rintro e w1 ⟨rfl,q1⟩;have bw1:=(ae w).trans (q1.mono (ae w).size);have lw1:=q1.size;clear q1;go_wp2_with fail;(with_reducible refine (jN _ c false hd).mono ?_);rintro e w2 ⟨rfl,q2⟩;have bw2:=bw1.trans (q2.mono bw1.size);have lw2:=q2.size;clear q2 bw1;go_wp2;go_ret;exact bp rfl bw2
   obtain rfl:v=true:=by rw [← hv];exact kK hu
   have h95:(((c.toNat:Nat):Int) == 95)=true:=(gc c 95).trans hu;clear hv hu;go_in;go_wp2_with fail;(with_reducible refine (dn _ c false hl).mono ?_);rintro e w1 ⟨rfl,q1⟩;have bw1:=(ae w).trans (q1.mono (ae w).size);have lw1:=q1.size;clear q1;go_wp2_with fail;(with_reducible refine (jN _ c false hd).mono ?_);rintro e w2 ⟨rfl,q2⟩;have bw2:=bw1.trans (q2.mono bw1.size);have lw2:=q2.size;clear q2 bw1;go_wp2;go_ret;exact bp rfl bw2
  obtain rfl:v=true:=by rw [← hv];exact kJ hd
  clear hv;go_in;go_wp2_with fail;(with_reducible refine (dn _ c false hl).mono ?_);rintro e w1 ⟨rfl,q1⟩;have bw1:=(ae w).trans (q1.mono (ae w).size);have lw1:=q1.size;clear q1;go_wp2_with fail;(with_reducible refine (jN _ c true hd).mono ?_);rintro e w2 ⟨rfl,q2⟩;have bw2:=bw1.trans (q2.mono bw1.size);have lw2:=q2.size;clear q2 bw1;go_wp2;go_ret;exact bp rfl bw2
 obtain rfl:v=true:=by rw [← hv];exact gM hl
 clear hv;go_in;go_wp2_with fail;(with_reducible refine (dn _ c true hl).mono ?_);rintro e w1 ⟨rfl,q1⟩;have bw1:=(ae w).trans (q1.mono (ae w).size);have lw1:=q1.size;clear q1;go_wp2;go_ret;exact bp rfl bw1
theorem gN (w:World) (s:List UInt8) (i:Nat) (d:UInt8) (hd:atB s i=d):Calls Tryz.prog 116 #[ag s,.int .i64 (i:Nat)] w (aw w (.int .u8 (d.toNat:Nat))):=by
 have hszs:=aq s;rcases Nat.lt_or_ge i s.length with hl | hl
 ·have hget:∀ h,(⟨s.toArray⟩:ByteArray)[i]'h=d:=fun h=>by rw [← hd];exact (jP hl).symm
  have hlts:i < s.length:=hl;have hi0:(0:Int)≤((i:Nat):Int):=by omega
  have e1:((i:Int) < (s.length:Int))=True:=by simp;omega
  clear hd;go_in;go_wp2;go_ret;exact ⟨rfl,(ae w)⟩
 obtain rfl:d=0:=by rw [← hd];exact jQ hl
 have e1:((i:Int) < (s.length:Int))=False:=by simp;omega
 clear hd;go_in;go_wp2;go_ret;exact ⟨rfl,(ae w)⟩
theorem nw (w:World) (s:List UInt8) (i:Nat) (hi:i≤s.length) (hs:s.length < 4611686018427387904) (v:Nat) (hv:i+bI (s.drop i)=v):Calls Tryz.prog 92 #[ag s,.int .i64 (i:Nat)] w (aw w (.int .i64 (v:Nat))):=by
 obtain ⟨d,hd⟩:∃ d,atB s i=d:=⟨_,rfl⟩;cases hl:ct d
 ·obtain rfl:i=v:=by rw [← hv,kI (by rw [hd];exact hl)];rfl
  clear hv;go_in;go_wp2_with fail;(with_reducible refine (gN _ (s) (i) d hd).mono ?_);rintro e w1 ⟨rfl,q1⟩;have bw1:=(ae w).trans (q1.mono (ae w).size);have lw1:=q1.size;clear q1;go_wp2_with fail;(with_reducible refine (dp _ d false hl).mono ?_);rintro e w2 ⟨rfl,q2⟩;have bw2:=bw1.trans (q2.mono bw1.size);have lw2:=q2.size;clear q2 bw1;go_wp2;go_ret;exact ⟨rfl,bw2⟩
 have hv:i+((s.drop i).takeWhile aB).length=v:=by rw [← hv,(kH (by rw [hd];exact hl)).2,(fi (p:=aB) rfl (by rw [hd];exact gM hl)).2]
 have HV:=Qh hv;clear hv;go_in;go_wp2_with fail;(with_reducible refine (gN _ (s) (i) d hd).mono ?_);rintro e w1 ⟨rfl,q1⟩;have bw1:=(ae w).trans (q1.mono (ae w).size);have lw1:=q1.size;clear q1;go_wp2_with fail;(with_reducible refine (dp _ d true hl).mono ?_);rintro e w2 ⟨rfl,q2⟩;have bw2:=bw1.trans (q2.mono bw1.size);have lw2:=q2.size;clear q2 bw1;go_wp2_with fail;clear hd hl;go_loopw [1] (fun iv wr=>∃ (j:Nat),iv=.int .i64 (j:Nat)∧j≤s.length∧Hid (j+((s.drop j).takeWhile aB).length=v)∧Kp w2 wr∧Below w.heap.size w wr∧w2.heap.size≤wr.heap.size) (fun iv _=>s.length - (intOf iv).toNat)
 case atStart=>exact ⟨i,rfl,hi,HV,Kp.refl _,bw2,Qr⟩
 case round =>
  obtain ⟨j,rfl,hj,hw,hkp,hbw,hlw⟩:=hrel;obtain ⟨d,hd⟩:∃ d,atB s j=d:=⟨_,rfl⟩;cases hl:ct d
  ·cases hg:bA d
   ·cases hu:(d == 95)
    ·have hjv:j=v:=by rw [← hw.out,jR (p:=aB) (by rw [hd];exact kL hl hg hu)];rfl
     subst hjv;have h95:(((d.toNat:Nat):Int) == 95)=false:=(gc d 95).trans hu;go_wp2_with fail;(with_reducible refine (gN _ (s) (j) d hd).mono ?_);rintro e w3 ⟨rfl,q3⟩;replace hkp:=hkp.below q3;have bw3:=hbw.trans (q3.mono hbw.size);have lw3:=q3.size;clear q3;go_wp2_with fail;(with_reducible refine (dp _ d false hl).mono ?_);rintro e w4 ⟨rfl,q4⟩;replace hkp:=hkp.below q4;have bw4:=bw3.trans (q4.mono bw3.size);have lw4:=q4.size;clear q4 bw3;go_wp2_with fail;(with_reducible refine (gN _ (s) (j) d hd).mono ?_);rintro e w5 ⟨rfl,q5⟩;replace hkp:=hkp.below q5;have bw5:=bw4.trans (q5.mono bw4.size);have lw5:=q5.size;clear q5 bw4;go_wp2_with fail;(with_reducible refine (jO _ d false hg).mono ?_);rintro e w6 ⟨rfl,q6⟩;replace hkp:=hkp.below q6;have bw6:=bw5.trans (q6.mono bw5.size);have lw6:=q6.size;clear q6 bw5;go_wp2_with fail;(with_reducible refine (gN _ (s) (j) d hd).mono ?_);rintro e w7 ⟨rfl,q7⟩;replace hkp:=hkp.below q7;have bw7:=bw6.trans (q7.mono bw6.size);have lw7:=q7.size;clear q7 bw6;go_wp2;go_ret;exact ⟨rfl,bw7⟩
    obtain ⟨hlt,hst⟩:=fi (p:=aB) (s:=s) (i:=j) rfl (by rw [hd];exact kK hu);have hw2:Hid (j+1+((s.drop (j+1)).takeWhile aB).length=v):=Qh (by rw [← hw.out,hst];omega);clear hst;have h95:(((d.toNat:Nat):Int) == 95)=true:=(gc d 95).trans hu;go_wp2_with fail;(with_reducible refine (gN _ (s) (j) d hd).mono ?_);rintro e w3 ⟨rfl,q3⟩;replace hkp:=hkp.below q3;have bw3:=hbw.trans (q3.mono hbw.size);have lw3:=q3.size;clear q3;go_wp2_with fail;(with_reducible refine (dp _ d false hl).mono ?_);rintro e w4 ⟨rfl,q4⟩;replace hkp:=hkp.below q4;have bw4:=bw3.trans (q4.mono bw3.size);have lw4:=q4.size;clear q4 bw3;go_wp2_with fail;(with_reducible refine (gN _ (s) (j) d hd).mono ?_);rintro e w5 ⟨rfl,q5⟩;replace hkp:=hkp.below q5;have bw5:=bw4.trans (q5.mono bw4.size);have lw5:=q5.size;clear q5 bw4;go_wp2_with fail;(with_reducible refine (jO _ d false hg).mono ?_);rintro e w6 ⟨rfl,q6⟩;replace hkp:=hkp.below q6;have bw6:=bw5.trans (q6.mono bw5.size);have lw6:=q6.size;clear q6 bw5;go_wp2_with fail;(with_reducible refine (gN _ (s) (j) d hd).mono ?_);rintro e w7 ⟨rfl,q7⟩;replace hkp:=hkp.below q7;have bw7:=bw6.trans (q7.mono bw6.size);have lw7:=q7.size;clear q7 bw6;go_wp2_with fail;go_roundw
    case rel=>exact ⟨j+1,by go_num,by omega,hw2,hkp,bw7,by omega⟩
    case measure=>simp [intOf];omega
   obtain ⟨hlt,hst⟩:=fi (p:=aB) (s:=s) (i:=j) rfl (by rw [hd];exact kJ hg);have hw2:Hid (j+1+((s.drop (j+1)).takeWhile aB).length=v):=Qh (by rw [← hw.out,hst];omega);clear hst;go_wp2_with fail;(with_reducible refine (gN _ (s) (j) d hd).mono ?_);rintro e w3 ⟨rfl,q3⟩;replace hkp:=hkp.below q3;have bw3:=hbw.trans (q3.mono hbw.size);have lw3:=q3.size;clear q3;go_wp2_with fail;(with_reducible refine (dp _ d false hl).mono ?_);rintro e w4 ⟨rfl,q4⟩;replace hkp:=hkp.below q4;have bw4:=bw3.trans (q4.mono bw3.size);have lw4:=q4.size;clear q4 bw3;go_wp2_with fail;(with_reducible refine (gN _ (s) (j) d hd).mono ?_);rintro e w5 ⟨rfl,q5⟩;replace hkp:=hkp.below q5;have bw5:=bw4.trans (q5.mono bw4.size);have lw5:=q5.size;clear q5 bw4;go_wp2_with fail;(with_reducible refine (jO _ d true hg).mono ?_);rintro e w6 ⟨rfl,q6⟩;replace hkp:=hkp.below q6;have bw6:=bw5.trans (q6.mono bw5.size);have lw6:=q6.size;clear q6 bw5;go_wp2_with fail;go_roundw
   case rel=>exact ⟨j+1,by go_num,by omega,hw2,hkp,bw6,by omega⟩
   case measure=>simp [intOf];omega
  obtain ⟨hlt,hst⟩:=fi (p:=aB) (s:=s) (i:=j) rfl (by rw [hd];exact gM hl);have hw2:Hid (j+1+((s.drop (j+1)).takeWhile aB).length=v):=Qh (by rw [← hw.out,hst];omega);clear hst;go_wp2_with fail;(with_reducible refine (gN _ (s) (j) d hd).mono ?_);rintro e w3 ⟨rfl,q3⟩;replace hkp:=hkp.below q3;have bw3:=hbw.trans (q3.mono hbw.size);have lw3:=q3.size;clear q3;go_wp2_with fail;(with_reducible refine (dp _ d true hl).mono ?_);rintro e w4 ⟨rfl,q4⟩;replace hkp:=hkp.below q4;have bw4:=bw3.trans (q4.mono bw3.size);have lw4:=q4.size;clear q4 bw3;go_wp2_with fail;go_roundw
  case rel=>exact ⟨j+1,by go_num,by omega,hw2,hkp,bw4,by omega⟩
  case measure=>simp [intOf];omega
theorem jS (w:World) (s:List UInt8) (hs:s.length < 4611686018427387904) (v:Nat) (hv:bI s=v):Calls Tryz.prog 108 #[ag s] w (aw w (.int .i64 (v:Nat))):=by
 have hszs:=aq s;rcases Nat.eq_zero_or_pos s.length with h0 | h0
 ·obtain rfl:s=[]:=List.eq_nil_of_length_eq_zero h0
  obtain rfl:0=v:=hv;clear hs;go_in;go_wp2;go_ret;exact ⟨rfl,(ae w)⟩
 obtain ⟨y,ys,hyy⟩:∃ y ys,s=y :: ys:=List.exists_cons_of_length_pos h0;have hBe:((⟨s.toArray⟩:ByteArray) == ⟨#[]⟩)=false:=by rw [hyy];rfl
 have hBl:(s == [])=false:=by rw [hyy];rfl
 have hBn:(s=[])=False:=by rw [hyy];simp
 clear hyy;obtain ⟨d,hd⟩:∃ d,atB s 0=d:=⟨_,rfl⟩;have hget:∀ h,(⟨s.toArray⟩:ByteArray)[0]'h=d:=fun h=>by rw [← hd];exact (jP h0).symm
 have hi1:(0:Int) < (s.length:Int):=by omega
 cases hl:ct d
 ·obtain rfl:0=v:=by rw [← hv];exact (kI (s:=s) (i:=0) (by rw [hd];exact hl)).symm
  clear hd hv;go_in;go_wp2_with fail;(with_reducible refine (dn _ d false hl).mono ?_);rintro e w1 ⟨rfl,q1⟩;have bw1:=(ae w).trans (q1.mono (ae w).size);have lw1:=q1.size;clear q1;go_wp2;go_ret;exact ⟨rfl,bw1⟩
 have HV:Hid (1+((s.drop 1).takeWhile aB).length=v):=Qh (by rw [← hv];exact ((kH (s:=s) (i:=0) (by rw [hd];exact hl)).2).symm);clear hv hd;go_in;go_wp2_with fail;(with_reducible refine (dn _ d true hl).mono ?_);rintro e w1 ⟨rfl,q1⟩;have bw1:=(ae w).trans (q1.mono (ae w).size);have lw1:=q1.size;clear q1;go_wp2_with fail;clear hget hl hi1 hBe hBl hBn;go_loopw [3] (fun iv wr=>∃ (j:Nat),iv=.int .i64 (j:Nat)∧j≤s.length∧Hid (j+((s.drop j).takeWhile aB).length=v)∧Kp w1 wr∧Below w.heap.size w wr∧w1.heap.size≤wr.heap.size) (fun iv _=>s.length - (intOf iv).toNat)
 case atStart=>exact ⟨1,rfl,h0,HV,Kp.refl _,bw1,Qr⟩
 case round =>
  obtain ⟨j,rfl,hj,hw,hkp,hbw,hlw⟩:=hrel;rcases Nat.lt_or_ge j s.length with hl | hl
  ·obtain ⟨d,hd⟩:∃ d,atB s j=d:=⟨_,rfl⟩
   have hget:∀ h,(⟨s.toArray⟩:ByteArray)[j]'h=d:=fun h=>by rw [← hd];exact (jP hl).symm
   have hlt:j < s.length:=hl;cases hg:aB d
   ·have hjv:j=v:=by rw [← hw.out,jR (p:=aB) (by rw [hd];exact hg)];rfl
    subst hjv;clear hd;go_wp2_with fail;(with_reducible refine (pB _ d false hg).mono ?_);rintro e w2 ⟨rfl,q2⟩;replace hkp:=hkp.below q2;have bw2:=hbw.trans (q2.mono hbw.size);have lw2:=q2.size;clear q2;go_wp2;go_ret;exact ⟨rfl,bw2⟩
   obtain ⟨_,hst⟩:=fi (p:=aB) (s:=s) (i:=j) rfl (by rw [hd];exact hg);have hw2:Hid (j+1+((s.drop (j+1)).takeWhile aB).length=v):=Qh (by rw [← hw.out,hst];omega);clear hst hd;go_wp2_with fail;(with_reducible refine (pB _ d true hg).mono ?_);rintro e w2 ⟨rfl,q2⟩;replace hkp:=hkp.below q2;have bw2:=hbw.trans (q2.mono hbw.size);have lw2:=q2.size;clear q2;go_wp2_with fail;go_roundw
   case rel=>exact ⟨j+1,by go_num,by omega,hw2,hkp,bw2,by omega⟩
   case measure=>simp [intOf];omega
  have hjv:j=v:=by rw [← hw.out,jR (p:=aB) (by rw [jQ hl];rfl)];rfl
  subst hjv;have hi1:((j:Int) < (s.length:Int))=False:=by simp;omega
  go_wp2;go_ret;exact ⟨rfl,hbw⟩
theorem fO (w:World) (s:List UInt8) (x:Int) (i:Nat) (hx:x=((i:Nat):Int)) (hi:i≤s.length) (hs:s.length < 4611686018427387904) (y:Int) (hy:((i+bI (s.drop i):Nat):Int)=y):Calls Tryz.prog 92 #[ag s,.int .i64 x] w (aw w (.int .i64 y)):=by
 subst hx hy;exact nw w s i hi hs _ rfl

theorem val_rep (m:Nat):val (List.replicate m 0)=0:=by
 induction m with
 | zero=>rfl
 | succ m ih=>rw [List.replicate_succ,val,ih]
theorem mq (m:Nat):Wds (List.replicate m 0):=by intro x hx;rw [List.eq_of_mem_replicate hx];omega
theorem kM (l:List Nat):(cellsOf l).toList=words l:=by simp [cellsOf,words]
theorem OwS.made (w:World) {B:Nat}(L:List Nat) (n:Nat) (hB:B≤w.heap.size) (hn:n≤4398046511104) (hL:L.length=n) (hW:Wds L):OwS (w.alloc (.cells (cellsOf L) 58)) B w.heap.size n n L:=by
 refine ⟨?_,hW⟩;rw [← kM];exact World.ownsRow_lit w (cellsOf L) n hB (by unfold maxLen;omega) (by simp [cellsOf,hL])
theorem OwS.far {w:World}{B g n cap:Nat}{l:List Nat}(h:OwS w B g n cap l) {p:Addr}(hp:g≠p.block) (u:Value):OwS (w.setCell p u) B g n cap l:=by
 refine ⟨⟨h.1.1,?_⟩,h.2⟩;rcases h.1.2 with ⟨e,_⟩ | ⟨g',c',cur,e,hB,hgg,r⟩
 ·cases e
 have e':=e;injection e with e1 _ e2;injection e1 with e1;injection e1 with e1;subst e1;exact .inr ⟨g,c',cur,e',hB,(Below.heap_setCell w p u g hp).trans hgg,r⟩
theorem rz {u p s:Nat}(hu:u+p < 4294967296) (ho:u ||| p=u+p) (hp:2 ^ s=p):bits .or .u32 (u:Int) ((2:Int) ^ s % 4294967296)=((u+p:Nat):Int):=by
 have e:(2:Int) ^ s % 4294967296=(p:Int):=by
  have h:(2:Int) ^ s=((2 ^ s:Nat):Int):=by simp
  rw [h,hp];omega
 rw [e,← ho];exact u32_or_nat u p (by omega) (by omega)
theorem uL {q m:Nat}:(2 * q+1) * 2 ^ m=q * 2 ^ (m+1)+2 ^ m:=by rw [Nat.pow_succ];grind
theorem uf {q m:Nat}:(2 * q) * 2 ^ m=q * 2 ^ (m+1):=by rw [Nat.pow_succ];grind
def uM (a b:Nat) (Lq Lr:List Nat) (k:Nat):Prop:=val Lq=a / 2 ^ k / b * 2 ^ k∧val Lr=a / 2 ^ k % b
theorem lK (w:World) (A n c l) (wa:Wd w A n c l) (hn:n≤1000000000000) (A' n' c' l') (wb:Wd w A' n' c' l') (hn':n'≤1000000000000) (h0:val l'≠0) :
 Calls Tryz.prog 258 #[.slice A n c,.slice A' n' c'] w (mS w (val l) (val l')):=by
 have HL:=Qh wa.2.1;have HL':=Qh wb.2.1;obtain ⟨va,hva⟩:∃ v,val l=v:=⟨_,rfl⟩;obtain ⟨vb,hvb⟩:∃ v,val l'=v:=⟨_,rfl⟩;have HA:=Qh hva;have HB:=Qh hvb;rw [hvb] at h0;have H0:=Qh (Nat.pos_of_ne_zero h0);rw [hva,hvb]
 obtain ⟨gb,ob,rfl,hgb,_⟩:=wb.at2 (by
  rcases Nat.eq_zero_or_pos n' with e | e
  ·exfalso
   have h9:=HL'.out;rw [e] at h9;rw [List.eq_nil_of_length_eq_zero h9.symm] at hvb;exact h0 hvb.symm
  exact e)
 clear h0 hva hvb;go_in
 go_wp2_with (first
  | (at_make;refine aH _ rfl _ _ rfl _ _ _ _ n rfl rfl (by omega) (by omega) (by omega) ?_)
  | (at_make;refine aH _ rfl _ _ rfl _ _ _ _ (n'+1) rfl rfl (by omega) (by omega) (by omega) ?_))
 (with_reducible refine (pu _ A n c l ?_ (by omega)).mono ?_);(exact wa.keep (((Kp.refl w).alloc _).alloc _));rintro e w1 ⟨N,rfl,hN1,hN2,rfl⟩;rw [HA.out] at hN1;go_wp2_with fail
 have oq0:OwS ((w.alloc (.cells (cellsOf (List.replicate n 0)) 58)).alloc (.cells (cellsOf (List.replicate (n'+1) 0)) 58)) w.heap.size w.heap.size n n (List.replicate n 0) :=
  (OwS.made w (List.replicate n 0) n Qr (by omega) (by simp) (mq n)).belw ((ae _).alloc Qr _)
 have or0:OwS ((w.alloc (.cells (cellsOf (List.replicate n 0)) 58)).alloc (.cells (cellsOf (List.replicate (n'+1) 0)) 58)) w.heap.size (w.heap.size+1) (n'+1) (n'+1) (List.replicate (n'+1) 0):=by
  have h:=OwS.made (w.alloc (.cells (cellsOf (List.replicate n 0)) 58)) (B:=w.heap.size) (List.replicate (n'+1) 0) (n'+1) (by simp) (by omega) (by simp) (mq _);simpa using h
 have HO:=Qh (And.intro oq0 or0);clear oq0 or0;go_loopw [8] (fun iv wr=>∃ (k:Nat) (z:Int) (Lq Lr:List Nat),k≤N∧iv=.int .i64 z∧z+1=(k:Int)∧uM va vb Lq Lr k∧OwS wr w.heap.size w.heap.size n n Lq∧OwS wr w.heap.size (w.heap.size+1) (n'+1) (n'+1) Lr∧Below w.heap.size w wr) (fun iv _=>(intOf iv+1).toNat)
 case atStart =>
  refine ⟨N,(N:Int) - 1,_,_,Qr,by go_num,by omega,⟨?_,?_⟩,HO.out.1,HO.out.2,((ae w).alloc Qr _).alloc (by simp) _⟩
  ·rw [val_rep,Nat.div_eq_of_lt hN1];simp
  rw [val_rep,Nat.div_eq_of_lt hN1];simp
 case round =>
  obtain ⟨k,z,Lq,Lr,hk,rfl,hz,hI,hq,hr,hbel⟩:=hrel;have HK:=Qh ((Kp.refl w).below hbel);have HI:=Qh hI;have HQ:=Qh hq;have HR:=Qh hr;have HBL:=Qh hbel;clear hI hq hr hbel HO;by_cases hk0:k=0
  ·subst hk0
   have ez:z=-1:=by omega
   subst ez;go_wp2_with fail;(with_reducible refine (cN _ (some ⟨w.heap.size,0,none⟩) n n Lq ?_ (by omega)).mono ?_);(exact HQ.out.toWd);rintro e w1 ⟨A1,n1,c1,rfl,h1,hb1⟩;have HR2:=Qh (HR.out.belw hb1);have HBL2:=Qh (HBL.out.trans (hb1.mono HBL.out.size));clear hb1;go_wp2_with fail;(with_reducible refine (cN _ (some ⟨w.heap.size+1,0,none⟩) (n'+1) (n'+1) Lr ?_ (by omega)).mono ?_);(exact HR2.out.toWd);rintro e w2 ⟨A2,n2,c2,rfl,h2,hb2⟩;have h1':=h1.keep ((Kp.refl w1).below hb2);have HBL3:=HBL2.out.trans (hb2.mono HBL2.out.size);rw [HI.out.1] at h1';rw [HI.out.2] at h2;simp only [Nat.pow_zero,Nat.div_one,Nat.mul_one] at h1' h2;have HF:=Qh (And.intro h1' (And.intro h2 HBL3));clear h1 h1' h2 HBL3 hb2;go_wp2;refine bodyPost_ret (v:=.tuple #[.slice A1 n1 c1,.slice A2 n2 c2]) (by simp [results,Tryz.results258,go_sem]) rfl ?_;exact ⟨A1,n1,c1,A2,n2,c2,rfl,HF.out.1,HF.out.2.1,HF.out.2.2⟩
  obtain ⟨m,rfl⟩:∃ m,k=m+1:=⟨k - 1,by omega⟩;have ez:z=(m:Int):=by omega
  subst ez;have hm32:m / 32 < n:=by omega
  obtain ⟨ga,oa,rfl,hgl,hca⟩:=(wa.keep HK.out).at2 (by omega);have hcx:=hca (m / 32) hm32;obtain ⟨x,hx⟩:∃ x,wd l (m / 32)=x:=⟨_,rfl⟩;have hx1:x < 4294967296:=by rw [← hx];exact wa.lt _
  rw [hx] at hcx;have HX:=Qh hx;obtain ⟨br,hbr⟩:∃ d,bits .and .u32 ((x:Int) / 2 ^ (m % 32)) 1=d:=⟨_,rfl⟩;obtain ⟨b,hb⟩:∃ b,va / 2 ^ m % 2=b:=⟨_,rfl⟩
  have hbb:br=(b:Int):=by
   rw [← hbr,← hb,← HA.out,← s8 wa.1 m,hx];have e:(x:Int) / 2 ^ (m % 32)=((x / 2 ^ (m % 32):Nat):Int):=by simp
   rw [e,jB _ (Nat.lt_of_le_of_lt (Nat.div_le_self _ _) hx1)]
  have HB1:=Qh hb;have hb1:b≤1:=by omega
  clear hca hx hz hk0 hb;go_wp2_with fail
  try rw [hbb]
  clear hbr hbb;go_loopw [9,36] (fun cv kv w2=>∃ (k cr:Nat) (L2:List Nat),k≤n'+1∧kv=.int .i64 (k:Nat)∧cv=.int .u32 (cr:Nat)∧cr≤1∧ir Lr L2 b k cr∧OwS w2 w.heap.size w.heap.size n n Lq∧OwS w2 w.heap.size (w.heap.size+1) (n'+1) (n'+1) L2∧Below w.heap.size w w2) (fun _ kv _=>n'+1 - (intOf kv).toNat)
  case atStart=>exact ⟨0,b,Lr,Nat.zero_le _,rfl,rfl,hb1,ir.start _ _,HQ.out,HR.out,HBL.out⟩
  case round =>
   obtain ⟨k,cr,L2,hk2,rfl,rfl,hcr,hI2,hq2,hr2,hbel2⟩:=hrel;have HI2:=Qh hI2;have HQ2:=Qh hq2;have HR2:=Qh hr2;have HBL2:=Qh hbel2;clear hI2 hq2 hr2 hbel2;by_cases hkk:k < n'+1
   ·obtain ⟨y,hy⟩:∃ y,wd Lr k=y:=⟨_,rfl⟩
    have hy1:y < 4294967296:=by rw [← hy];exact aU HR.out.2 _
    have hck:=HR2.out.cell k hkk;rw [HI2.out.1 k Qr,hy] at hck;have hfk:=HR2.out.frozen k;have HY:=Qh hy;obtain ⟨s,hs⟩:∃ s,bits .or .u32 ((y:Int) * 2 % 4294967296) (cr:Int)=s:=⟨_,rfl⟩
    have he:s=((y * 2 % 4294967296+cr:Nat):Int):=by
     rw [← hs,← (kz hcr hy1).1];exact u32_or_nat (y * 2 % 4294967296) cr (Nat.mod_lt _ (by decide)) (by omega)
    have HE:=Qh he;have HS:=Qh (kz hcr hy1).2;clear hy he;go_wp2;go_region;clear hs;go_wp2;go_roundw
    case rel =>
     have hst:=HI2.out.step HY.out hy1 (by rw [← HR2.out.len];exact hkk);refine ⟨k+1,y / 2147483648,L2.set k (y * 2 % 4294967296+cr),by omega,by go_num,by go_num,HS.out.2,hst,?_,?_,?_⟩
     ·exact OwS.far (w:=wr) HQ2.out (p:=⟨w.heap.size+1,k,none⟩) (by simp) _
     ·exact OwS.set (w:=wr) HR2.out k HS.out.1 HE.out
     exact (Below.setCell HBL2.out (p:=⟨w.heap.size+1,k,none⟩) (by simp) _).drew
    case measure=>simp [intOf];omega
   have hkn:k=n'+1:=by omega
   subst hkn
   have hv2:val L2=2 * val Lr+b:=by
    have h3:=HR2.out.len;have h4:=HR.out.len;refine ir.fin HI2.out (by omega) (by omega) ?_;refine pr (v:=vb) ?_ ?_ hb1
    ·rw [HI.out.2];exact Nat.mod_lt _ H0.out
    rw [← HB.out,HL'.out];exact bQ wb.1
   rw [HI.out.2,← HB1.out] at hv2;obtain ⟨r2,hr2⟩:∃ r,val L2=r:=⟨_,rfl⟩;rw [hr2] at hv2;have HV:=Qh hv2;have HR2v:=Qh hr2;clear hv2 hr2;by_cases hge:vb≤r2
   ·have hc0:0≤aO r2 vb:=by unfold aO;(repeat' split) <;> omega
    obtain ⟨cv,hcv⟩:∃ cv,aO r2 vb=cv:=⟨_,rfl⟩;rw [hcv] at hc0;have HC:=Qh hcv;clear hcv;go_wp2_with fail;(with_reducible refine (cp _ (some ⟨w.heap.size+1,0,none⟩) (n'+1) (n'+1) L2 ?_ ?_ (some ⟨gb,ob,none⟩) n' c' l' ?_ ?_).mono ?_);(exact HR2.out.toWd);(omega);(exact wb.keep ((Kp.refl w).below HBL2.out));(omega);rintro e w1 ⟨rfl,hbl1⟩;rw [HR2v.out,HB.out,HC.out];have HQ3:=Qh (HQ2.out.belw hbl1);have HR3:=Qh (HR2.out.belw hbl1);have HBL3:=Qh (HBL2.out.trans (hbl1.mono HBL2.out.size));clear hbl1 HQ2 HR2 HBL2;go_wp2_with fail;(with_reducible refine (dG _ w.heap.size (w.heap.size+1) (n'+1) (n'+1) L2 ?_ ?_ (some ⟨gb,ob,none⟩) n' c' l' ?_ ?_ ?_ ?_).mono ?_)
    ·exact HR3.out
    ·omega
    ·exact wb.keep ((Kp.refl w).below HBL3.out)
    ·intro ad e;injection e with e;subst e;show gb≠_;omega
    ·omega
    ·rw [HR2v.out,HB.out];exact hge
    rintro e w2 ⟨L3,rfl,hr3,hv3,hon⟩;rw [HR2v.out,HB.out] at hv3;have hq3:=hon.own HQ3.out (by omega);have HBL4:=Qh (HBL3.out.trans (hon.1.mono (by omega)));have HR4:=Qh hr3;have HV3:=Qh hv3;obtain ⟨u,hu⟩:∃ u,wd Lq (m / 32)=u:=⟨_,rfl⟩;have hcq:=hq3.cell (m / 32) hm32;have hfq:=hq3.frozen (m / 32);rw [hu] at hcq;have hob:=s9 HQ.out.2 m (by rw [← HQ.out.len];exact hm32) HI.out.1;rw [hu] at hob;obtain ⟨p,hp⟩:∃ p,2 ^ (m % 32)=p:=⟨_,rfl⟩;rw [hp] at hob;have HQ4:=Qh hq3;have HOB:=Qh hob;have HU:=Qh hu;have HP:=Qh hp;clear hr3 hv3 hon hq3 HQ3 HR3 HBL3 hu hob hp;go_wp2;go_region;go_wp2;go_roundw
    case rel =>
     have hbi:=ta (a:=va) (k:=m) HV.out hge H0.out;have he:=rz HOB.out.2.1 HOB.out.1 HP.out;refine ⟨m,(m:Int) - 1,Lq.set (m / 32) (u+p),L3,by omega,by go_num,by omega,⟨?_,?_⟩,?_,?_,?_⟩
     ·rw [HOB.out.2.2,HI.out.1,hbi.1,uL]
     ·rw [HV3.out,hbi.2]
     ·exact OwS.set (w:=w2) HQ4.out (m / 32) HOB.out.2.1 he
     ·exact OwS.far (w:=w2) HR4.out (p:=⟨w.heap.size,m / 32,none⟩) (by simp) _
     exact (Below.setCell HBL4.out (p:=⟨w.heap.size,m / 32,none⟩) (by simp) _).drew
    case measure=>simp [intOf] <;> omega
   have hc0:aO r2 vb < 0:=by unfold aO;(repeat' split) <;> omega
   obtain ⟨cv,hcv⟩:∃ cv,aO r2 vb=cv:=⟨_,rfl⟩;rw [hcv] at hc0;have HC:=Qh hcv;clear hcv;go_wp2_with fail;(with_reducible refine (cp _ (some ⟨w.heap.size+1,0,none⟩) (n'+1) (n'+1) L2 ?_ ?_ (some ⟨gb,ob,none⟩) n' c' l' ?_ ?_).mono ?_);(exact HR2.out.toWd);(omega);(exact wb.keep ((Kp.refl w).below HBL2.out));(omega);rintro e w1 ⟨rfl,hbl1⟩;rw [HR2v.out,HB.out,HC.out];have HQ3:=Qh (HQ2.out.belw hbl1);have HR3:=Qh (HR2.out.belw hbl1);have HBL3:=Qh (HBL2.out.trans (hbl1.mono HBL2.out.size));clear hbl1 HQ2 HR2 HBL2;go_wp2;go_roundw
   case rel =>
    have hbi:=rq (a:=va) (k:=m) HV.out (by omega);refine ⟨m,(m:Int) - 1,Lq,L2,by omega,by go_num,by omega,⟨?_,?_⟩,HQ3.out,HR3.out,HBL3.out⟩
    ·rw [HI.out.1,hbi.1,uf]
    rw [HR2v.out,hbi.2]
   case measure=>simp [intOf] <;> omega
theorem dV (w:World) (b:Bool) (A:Option Addr) (n c:Nat) (l:List Nat) (s:Bool) (wa:Wd w A n c l) (hn:n≤1099511627776) (hs:WD.s ⟨b,l⟩=s) :
 Calls Tryz.prog 222 #[.agg #[.bool b,.slice A n c]] w (aw w (.bool s)):=by subst hs;exact cg w b A n c l wa hn
theorem pC (w:World) (b:Bool) (A:Option Addr) (n c:Nat) (l:List Nat) (s:Int) (wa:Wd w A n c l) (hn:n≤1099511627000) (hs:(WD.z ⟨b,l⟩).sign=s) :
 Calls Tryz.prog 211 #[.agg #[.bool b,.slice A n c]] w (aw w (.int .i64 s)):=by subst hs;exact ko w b A n c l wa hn
theorem lL (w:World) (A n c l) (wa:Wd w A n c l) (hn:n≤1000000000000) (A' n' c' l') (wb:Wd w A' n' c' l') (hn':n'≤1000000000000) (x y:Nat) (hx:val l=x) (hy:val l'=y) (h0:y≠0) :
 Calls Tryz.prog 258 #[.slice A n c,.slice A' n' c'] w (mS w x y):=by subst hx hy;exact lK w A n c l wa hn A' n' c' l' wb hn' h0
def rA (w:World) (q r:Int) (e:Ending) (w':World):Prop:=∃ A1 n1 c1 A2 n2 c2,e=.returned (.tuple #[.agg #[.bool (wh q).neg,.slice A1 n1 c1],.agg #[.bool (wh r).neg,.slice A2 n2 c2],.int .i64 0])∧Wd w' A1 n1 c1 (wh q).mag∧Wd w' A2 n2 c2 (wh r).mag∧Below w.heap.size w w'
theorem rB (w:World) (b:Bool) (A n c l) (wa:Wd w A n c l) (hn:n≤1000000000000) (b':Bool) (A' n' c' l') (wb:Wd w A' n' c' l') (hn':n'≤1000000000000) (h0:WD.z ⟨b',l'⟩≠0) (hr0:WD.z ⟨b,l⟩ % WD.z ⟨b',l'⟩=0) :
 Calls Tryz.prog 254 #[.agg #[.bool b,.slice A n c],.agg #[.bool b',.slice A' n' c']] w (rA w (WD.z ⟨b,l⟩ / WD.z ⟨b',l'⟩) (WD.z ⟨b,l⟩ % WD.z ⟨b',l'⟩)):=by
 have HL:=Qh wa.2.1;have HL':=Qh wb.2.1;obtain ⟨s0,hs0'⟩:∃ s,(WD.z ⟨b',l'⟩).sign=s:=⟨_,rfl⟩;have es0:((s0:Int) == 0)=false:=by simp;rintro rfl;exact h0 (Int.sign_eq_zero_iff_zero.1 hs0')
 have HSG:=Qh hs0';clear hs0'
 have hd0:val (WD.m ⟨b',l'⟩) ∣ val (WD.m ⟨b,l⟩):=by
  rw [← gn ⟨b,l⟩,← gn ⟨b',l'⟩];exact Int.natAbs_dvd_natAbs.2 (Int.dvd_of_emod_eq_zero hr0)
 rw [WD.z_eq] at h0 ⊢;rw [WD.z_eq ⟨b',l'⟩];have hv2:val (WD.m ⟨b',l'⟩)≠0:=by intro e;rw [e] at h0;exact h0 (by cases (WD.s ⟨b',l'⟩) <;> rfl)
 obtain ⟨sa,hsa⟩:∃ s,WD.s ⟨b,l⟩=s:=⟨_,rfl⟩;obtain ⟨sb,hsb⟩:∃ s,WD.s ⟨b',l'⟩=s:=⟨_,rfl⟩;rw [hsa,hsb];obtain ⟨x,hx⟩:∃ x,val (WD.m ⟨b,l⟩)=x:=⟨_,rfl⟩;obtain ⟨y,hy⟩:∃ y,val (WD.m ⟨b',l'⟩)=y:=⟨_,rfl⟩;rw [hx,hy];rw [hx,hy] at hd0;have HS:=Qh (And.intro hsa hsb);have HX:=Qh (And.intro hx hy);have HY:=Qh (show y≠0 from hy ▸ hv2);have HR0:=Qh (Nat.mod_eq_zero_of_dvd hd0);clear hsa hsb hx hy hv2 h0 hr0 hd0;go_in;go_wp2_with fail;have b0:Below w.heap.size w ((((w.alloc (.cells #[.bool b,.slice A n c] 194)).alloc (.cells #[.bool b',.slice A' n' c'] 194)).alloc (.cells #[.bool false,.slice none 0 0] 194)).alloc (.cells #[.bool false,.slice none 0 0] 194)):=(((((Below.refl _ _).alloc Qr _).alloc (by simp) _).alloc (by simp;omega) _).alloc (by simp;omega) _);generalize hW0:((((w.alloc (.cells #[.bool b,.slice A n c] 194)).alloc (.cells #[.bool b',.slice A' n' c'] 194)).alloc (.cells #[.bool false,.slice none 0 0] 194)).alloc (.cells #[.bool false,.slice none 0 0] 194))=W0 at b0 ⊢;have c00:W0.cell? ⟨w.heap.size,0,none⟩=some (.bool b):=by subst hW0;simp [go_sem]
 have f00:W0.frozen? ⟨w.heap.size,0,none⟩=false:=by subst hW0;simp [go_sem]
 have c01:W0.cell? ⟨w.heap.size,1,none⟩=some (.slice A n c):=by subst hW0;simp [go_sem]
 have f01:W0.frozen? ⟨w.heap.size,1,none⟩=false:=by subst hW0;simp [go_sem]
 have c10:W0.cell? ⟨w.heap.size+1,0,none⟩=some (.bool b'):=by subst hW0;simp [go_sem]
 have f10:W0.frozen? ⟨w.heap.size+1,0,none⟩=false:=by subst hW0;simp [go_sem]
 have c11:W0.cell? ⟨w.heap.size+1,1,none⟩=some (.slice A' n' c'):=by subst hW0;simp [go_sem]
 have f11:W0.frozen? ⟨w.heap.size+1,1,none⟩=false:=by subst hW0;simp [go_sem]
 have c20:W0.cell? ⟨w.heap.size+1+1,0,none⟩=some (.bool false):=by subst hW0;simp [go_sem]
 have f20:W0.frozen? ⟨w.heap.size+1+1,0,none⟩=false:=by subst hW0;simp [go_sem]
 have c21:W0.cell? ⟨w.heap.size+1+1,1,none⟩=some (.slice none 0 0):=by subst hW0;simp [go_sem]
 have f21:W0.frozen? ⟨w.heap.size+1+1,1,none⟩=false:=by subst hW0;simp [go_sem]
 have c30:W0.cell? ⟨w.heap.size+1+1+1,0,none⟩=some (.bool false):=by subst hW0;simp [go_sem]
 have f30:W0.frozen? ⟨w.heap.size+1+1+1,0,none⟩=false:=by subst hW0;simp [go_sem]
 have c31:W0.cell? ⟨w.heap.size+1+1+1,1,none⟩=some (.slice none 0 0):=by subst hW0;simp [go_sem]
 have f31:W0.frozen? ⟨w.heap.size+1+1+1,1,none⟩=false:=by subst hW0;simp [go_sem]
 have x0:Box W0 w.heap.size 194:=by subst hW0;exact (((bi _ _ _ (by simp)).alloc _).alloc _).alloc _
 have x1:Box W0 (w.heap.size+1) 194:=by subst hW0;exact ((bi _ _ _ (by simp)).alloc _).alloc _
 have x2:Box W0 (w.heap.size+1+1) 194:=by subst hW0;exact (bi _ _ _ (by simp)).alloc _
 have x3:Box W0 (w.heap.size+1+1+1) 194:=by subst hW0;exact bi _ _ _ (by simp)
 have hm0:fx (w.heap.size+1+1) (w.heap.size+1+1+1+1) 2 W0:=by subst hW0;exact tJ (by simp) rfl
 have hs0:w.heap.size+1+1+1+1≤W0.heap.size:=by subst hW0;simp
 clear hW0;have wa:=wa.belw b0;have wb:=wb.belw b0;have r0:Below W0.heap.size W0 W0:=ae _
 go_wp2_with (first
  | (go_at_call 211;(with_reducible refine (pC _ b' A' n' c' l' s0 ?_ ?_ ?_).mono ?_);(exact wb);(omega);(exact HSG.out);rintro e w1 ⟨rfl,hb1⟩;have r1:=af r0 hb1;replace wa:=wa.belw hb1;replace wb:=wb.belw hb1;(try clear sc sf sr sz);obtain ⟨⟨sc,sf⟩,sr,sz⟩:=bf.of (by omega) hs0 hm0 r1))
 (try clear sc sf sr sz);have hRB:w.heap.size+1+1≤w.heap.size+1+1+1+1:=by omega
 go_region_held3 (fun w'=>Sees (w.heap.size+1+1) W0 w') (first | exact Sees.of (Nat.le_trans hRB hs0) (by assumption) | exact Sees.of (Nat.le_trans hRB hs0) (aa (by assumption) _))
  (first
   | (go_at_call 215;(with_reducible refine (bR _ b A n c l ?_ ?_).mono ?_);(exact wa);(omega);rintro e w2 ⟨A2,n2,c2,rfl,h2,hb2⟩;replace hb2:=af (aa (ae _) 1) hb2;have r2:=af r1 hb2;replace wa:=wa.belw hb2;replace wb:=wb.belw hb2)
   | (go_at_call 215;(with_reducible refine (bR _ b' A' n' c' l' ?_ ?_).mono ?_);(exact wb);(omega);rintro e w3 ⟨A3,n3,c3,rfl,h3,hb3⟩;have r3:=af r2 hb3;replace wa:=wa.belw hb3;replace wb:=wb.belw hb3;replace h2:=h2.belw hb3)
   | (go_at_call 258;(with_reducible refine (lL _ A2 n2 c2 (WD.m ⟨b,l⟩) ?_ ?_ A3 n3 c3 (WD.m ⟨b',l'⟩) ?_ ?_ x y ?_ ?_ ?_).mono ?_);(exact h2);(exact h2.m_len (by rw [← HL.out];exact hn));(exact h3);(exact h3.m_len (by rw [← HL'.out];exact hn'));(exact HX.out.1);(exact HX.out.2);(exact HY.out);rintro e w4 ⟨A4,n4,c4,A5,n5,c5,rfl,h4,h5,hb4⟩;have r4:=af r3 hb4;replace wa:=wa.belw hb4;replace wb:=wb.belw hb4;replace h2:=h2.belw hb4;replace h3:=h3.belw hb4))
 obtain ⟨⟨sc,sf⟩,sr,sz⟩:=bf.of (by omega) hs0 hm0 r4;clear hRB
 have hn4:n4≤1000000000000:=by
  rw [h4.2.1];exact ox (Nat.lt_of_le_of_lt (Nat.div_le_self _ _) (HX.out.1 ▸ h2.vlt Qr)) (h2.m_len (by rw [← HL.out];exact hn))
 have hn5:n5=0:=by rw [h5.2.1,HR0.out,am];rfl
 subst hn5;cases sa
 ·go_wp2_with (first
   | (go_at_call 222;(with_reducible refine (dV _ b A n c l false ?_ ?_ ?_).mono ?_);(exact wa);(omega);(exact HS.out.1);rintro e w5 ⟨rfl,hb5⟩;have r5:=af r4 hb5;replace wa:=wa.belw hb5;replace wb:=wb.belw hb5;replace h2:=h2.belw hb5;replace h3:=h3.belw hb5;replace h4:=h4.belw hb5;replace h5:=h5.belw hb5;(try clear sc sf sr sz);obtain ⟨⟨sc,sf⟩,sr,sz⟩:=bf.of (by omega) hs0 hm0 r5))
  have HZ:=Qh (iO (sa:=false) (sb:=sb) (x:=x) HY.out (.inr HR0.out));(try clear sc sf sr sz);have hRB:w.heap.size+1+1≤w.heap.size+1+1+1+1:=by omega
  go_region_held3 (fun w'=>Sees (w.heap.size+1+1) W0 w') (first | exact Sees.of (Nat.le_trans hRB hs0) (by assumption) | exact Sees.of (Nat.le_trans hRB hs0) (aa (by assumption) _) | exact (Sees.set (Sees.of (Nat.le_trans hRB hs0) (by assumption)) (by simp)) | exact (Sees.set (Sees.set (Sees.of (Nat.le_trans hRB hs0) (by assumption)) (by simp)) (by simp)) | exact (Sees.set (Sees.set (Sees.set (Sees.of (Nat.le_trans hRB hs0) (by assumption)) (by simp)) (by simp)) (by simp)) | exact (Sees.set (Sees.set (Sees.set (Sees.set (Sees.of (Nat.le_trans hRB hs0) (by assumption)) (by simp)) (by simp)) (by simp)) (by simp)))
   (first
    | (go_at_call 222;(with_reducible refine (dV _ b A n c l false ?_ ?_ ?_).mono ?_);(exact wa);(omega);(exact HS.out.1);rintro e w6 ⟨rfl,hb6⟩;replace hb6:=af (aa (ae _) 1) hb6;have r6:=af r5 hb6;replace wa:=wa.belw hb6;replace wb:=wb.belw hb6;replace h2:=h2.belw hb6;replace h3:=h3.belw hb6;replace h4:=h4.belw hb6;replace h5:=h5.belw hb6)
    | (go_at_call 222;(with_reducible refine (dV _ b' A' n' c' l' sb ?_ ?_ ?_).mono ?_);(exact wb);(omega);(exact HS.out.2);rintro e w7 ⟨rfl,hb7⟩;have r7:=af r6 hb7;replace wa:=wa.belw hb7;replace wb:=wb.belw hb7;replace h2:=h2.belw hb7;replace h3:=h3.belw hb7;replace h4:=h4.belw hb7;replace h5:=h5.belw hb7)
    | (go_at_call 213;(with_reducible refine (bS _ sb A4 n4 c4 (aj (x / y)) (sgn false x / sgn sb y) ?_ ?_ ?_).mono ?_);(exact h4);(omega);(rw [HZ.out.1,ah];cases sb <;> rfl);rintro e w8 ⟨A8,n8,c8,rfl,h8,hb8⟩;have r8:=af r7 hb8;replace wa:=wa.belw hb8;replace wb:=wb.belw hb8;replace h2:=h2.belw hb8;replace h3:=h3.belw hb8;replace h4:=h4.belw hb8;replace h5:=h5.belw hb8)
    | (go_at_call 213;(with_reducible refine (bS _ false A5 0 c5 (aj (x % y)) (sgn false x % sgn sb y) ?_ ?_ ?_).mono ?_);(exact h5);(omega);(rw [HZ.out.2,ah];rfl);rintro e w9 ⟨A9,n9,c9,rfl,h9,hb9⟩;have r9:=af r8 hb9;replace wa:=wa.belw hb9;replace wb:=wb.belw hb9;replace h2:=h2.belw hb9;replace h3:=h3.belw hb9;replace h4:=h4.belw hb9;replace h5:=h5.belw hb9;replace h8:=h8.belw hb9;obtain ⟨⟨sc,sf⟩,sr,sz⟩:=bf.of (by omega) hs0 hm0 r9))
  clear hRB;go_wp2_with fail;refine bodyPost_ret (v:=.tuple #[.agg #[.bool _,.slice A8 n8 c8],.agg #[.bool _,.slice A9 n9 c9],.int .i64 0]) (by simp [results,Tryz.results254,go_sem,sr];first | rfl | exact ⟨rfl,rfl⟩) rfl ?_;have y2:=x2.below r9;have y3:=x3.below r9;refine ⟨A8,n8,c8,A9,n9,c9,rfl,?_,?_,?_⟩
  ·exact h8.keep (kp4 y2 y3 (by decide) (by decide) _ _ _ _ _ _ _ _)
  ·exact h9.keep (kp4 y2 y3 (by decide) (by decide) _ _ _ _ _ _ _ _)
  exact ((((b0.trans (r9.mono b0.size)).setCell (by dsimp only;omega) _).setCell (by dsimp only;omega) _).setCell (by dsimp only;omega) _).setCell (by dsimp only;omega) _
 ·go_wp2_with (first
   | (go_at_call 222;(with_reducible refine (dV _ b A n c l true ?_ ?_ ?_).mono ?_);(exact wa);(omega);(exact HS.out.1);rintro e w5 ⟨rfl,hb5⟩;have r5:=af r4 hb5;replace wa:=wa.belw hb5;replace wb:=wb.belw hb5;replace h2:=h2.belw hb5;replace h3:=h3.belw hb5;replace h4:=h4.belw hb5;replace h5:=h5.belw hb5;(try clear sc sf sr sz);obtain ⟨⟨sc,sf⟩,sr,sz⟩:=bf.of (by omega) hs0 hm0 r5))
  have HZ:=Qh (iO (sa:=true) (sb:=sb) (x:=x) HY.out (.inr HR0.out));(try clear sc sf sr sz);have hRB:w.heap.size+1+1≤w.heap.size+1+1+1+1:=by omega
  go_region_held3 (fun w'=>Sees (w.heap.size+1+1) W0 w') (first | exact Sees.of (Nat.le_trans hRB hs0) (by assumption) | exact Sees.of (Nat.le_trans hRB hs0) (aa (by assumption) _) | exact (Sees.set (Sees.of (Nat.le_trans hRB hs0) (by assumption)) (by simp)) | exact (Sees.set (Sees.set (Sees.of (Nat.le_trans hRB hs0) (by assumption)) (by simp)) (by simp)) | exact (Sees.set (Sees.set (Sees.set (Sees.of (Nat.le_trans hRB hs0) (by assumption)) (by simp)) (by simp)) (by simp)) | exact (Sees.set (Sees.set (Sees.set (Sees.set (Sees.of (Nat.le_trans hRB hs0) (by assumption)) (by simp)) (by simp)) (by simp)) (by simp)))
   (first
    | (go_at_call 222;(with_reducible refine (dV _ b A n c l true ?_ ?_ ?_).mono ?_);(exact wa);(omega);(exact HS.out.1);rintro e w6 ⟨rfl,hb6⟩;replace hb6:=af (aa (ae _) 1) hb6;have r6:=af r5 hb6;replace wa:=wa.belw hb6;replace wb:=wb.belw hb6;replace h2:=h2.belw hb6;replace h3:=h3.belw hb6;replace h4:=h4.belw hb6;replace h5:=h5.belw hb6)
    | (go_at_call 222;(with_reducible refine (dV _ b' A' n' c' l' sb ?_ ?_ ?_).mono ?_);(exact wb);(omega);(exact HS.out.2);rintro e w7 ⟨rfl,hb7⟩;have r7:=af r6 hb7;replace wa:=wa.belw hb7;replace wb:=wb.belw hb7;replace h2:=h2.belw hb7;replace h3:=h3.belw hb7;replace h4:=h4.belw hb7;replace h5:=h5.belw hb7)
    | (go_at_call 213;(with_reducible refine (bS _ (!sb) A4 n4 c4 (aj (x / y)) (sgn true x / sgn sb y) ?_ ?_ ?_).mono ?_);(exact h4);(omega);(rw [HZ.out.1,ah];cases sb <;> rfl);rintro e w8 ⟨A8,n8,c8,rfl,h8,hb8⟩;have r8:=af r7 hb8;replace wa:=wa.belw hb8;replace wb:=wb.belw hb8;replace h2:=h2.belw hb8;replace h3:=h3.belw hb8;replace h4:=h4.belw hb8;replace h5:=h5.belw hb8)
    | (go_at_call 213;(with_reducible refine (bS _ false A5 0 c5 (aj (x % y)) (sgn true x % sgn sb y) ?_ ?_ ?_).mono ?_);(exact h5);(omega);(rw [HZ.out.2,ah];rfl);rintro e w9 ⟨A9,n9,c9,rfl,h9,hb9⟩;have r9:=af r8 hb9;replace wa:=wa.belw hb9;replace wb:=wb.belw hb9;replace h2:=h2.belw hb9;replace h3:=h3.belw hb9;replace h4:=h4.belw hb9;replace h5:=h5.belw hb9;replace h8:=h8.belw hb9;obtain ⟨⟨sc,sf⟩,sr,sz⟩:=bf.of (by omega) hs0 hm0 r9))
  clear hRB;go_wp2_with fail;refine bodyPost_ret (v:=.tuple #[.agg #[.bool _,.slice A8 n8 c8],.agg #[.bool _,.slice A9 n9 c9],.int .i64 0]) (by simp [results,Tryz.results254,go_sem,sr];first | rfl | exact ⟨rfl,rfl⟩) rfl ?_;have y2:=x2.below r9;have y3:=x3.below r9;refine ⟨A8,n8,c8,A9,n9,c9,rfl,?_,?_,?_⟩
  ·exact h8.keep (kp4 y2 y3 (by decide) (by decide) _ _ _ _ _ _ _ _)
  ·exact h9.keep (kp4 y2 y3 (by decide) (by decide) _ _ _ _ _ _ _ _)
  exact ((((b0.trans (r9.mono b0.size)).setCell (by dsimp only;omega) _).setCell (by dsimp only;omega) _).setCell (by dsimp only;omega) _).setCell (by dsimp only;omega) _
theorem mr (w:World) (b A n c z k) (h:IZ w b A n c z k) (b' A' n' c' z' k') (h':IZ w b' A' n' c' z' k') (hk:k+k'≤1000000000) (h0:z'≠0) (hr:z % z'=0):Calls Tryz.prog 254 #[.agg #[.bool b,.slice A n c],.agg #[.bool b',.slice A' n' c']] w (tT w (.int .i64 0) (z / z') (z % z') (k+k')):=by
 have hz:=h.mono (Nat.le_add_right k k') |>.lt
 have hz':=h'.mono (Nat.le_add_left k' k) |>.lt
 obtain ⟨l,h1,rfl,h3⟩:=h;obtain ⟨l',h1',rfl,h3'⟩:=h';refine (rB w b A n c l h1 (by omega) b' A' n' c' l' h1' (by omega) h0 hr).mono fun _ _ r=>?_
 obtain ⟨A1,n1,c1,A2,n2,c2,rfl,r1,r2,r3⟩:=r;refine ⟨_,A1,n1,c1,_,A2,n2,c2,rfl,IV.mk_ r1 rfl ?_,IV.mk_ r2 rfl ?_,r3⟩
 ·exact Nat.lt_of_le_of_lt (Int.natAbs_ediv_le_natAbs _ _) hz
 have e1:=Int.emod_nonneg (WD.z ⟨b,l⟩) h0;have e2:=Int.emod_lt (WD.z ⟨b,l⟩) h0;omega
theorem gP (w:World) (b A n c z k) (h:IZ w b A n c z k) (s:Int) (hs:z.sign=s) (hk:k≤1000000000):Calls Tryz.prog 211 #[.agg #[.bool b,.slice A n c]] w (aw w (.int .i64 s)):=by
 subst hs;exact gy w b A n c z k h hk
theorem pD {z d:Int}{q:Rat}(hz:z≠0) (hd:0 < d) (hq:Rat.divInt z d=q) :
 (rd q).num=(wh (z / ((Nat.gcd z.natAbs d.natAbs:Nat):Int))).mag∧(rd q).den=(wh (d / ((Nat.gcd z.natAbs d.natAbs:Nat):Int))).mag∧(rd q).neg=(wh (z / ((Nat.gcd z.natAbs d.natAbs:Nat):Int))).neg:=by
 rw [← hq,mI hz hd,sU _ hd];have hg:0 < Nat.gcd z.natAbs d.natAbs:=Nat.gcd_pos_of_pos_right _ (by omega);have hdv:((Nat.gcd z.natAbs d.natAbs:Nat):Int) ∣ z:=Int.ofNat_dvd_left.2 (Nat.gcd_dvd_left _ _);generalize Nat.gcd z.natAbs d.natAbs=g at *;obtain ⟨m,rfl⟩:=hdv;have e:(g:Int) * m / (g:Int)=m:=Int.mul_ediv_cancel_left _ (by omega);have e2:((g:Int) * m).natAbs / g=m.natAbs:=by rw [Int.natAbs_mul,Int.natAbs_natCast];exact Nat.mul_div_cancel_left _ hg
 rw [e,e2];refine ⟨rfl,rfl,?_⟩;unfold wh;simp only [decide_eq_decide];constructor
 ·intro h;rcases (show m < 0∨0≤m by omega) with h1 | h1;exact h1;exact absurd (Int.mul_nonneg (Int.natCast_nonneg g) h1) (by omega)
 intro h;exact Int.mul_neg_of_pos_of_neg (by omega) h
theorem pE (w:World) (b A n c z k) (h:IZ w b A n c z k) (b' A' n' c' z' k') (h':IZ w b' A' n' c' z' k') (q:Rat) (K:Nat) (hd:z'≠0) (hq:Rat.divInt z z'=q) (hs:Sz q K) (hk:k+k'≤300000000) :
 Calls Tryz.prog 237 #[.agg #[.bool b,.slice A n c],.agg #[.bool b',.slice A' n' c']] w (qT w q K):=by
 have HD:=Qh hd;have HQ:=Qh hq;have HS:=Qh hs;obtain ⟨s,hs1⟩:∃ s,z.sign=s:=⟨_,rfl⟩;obtain ⟨s',hs2⟩:∃ s,z'.sign=s:=⟨_,rfl⟩;have H1:=Qh hs1;have H2:=Qh hs2;clear hd hq hs hs1 hs2;go_in;go_upto_region 1 with fail;refine gq ?_;intro w1 hw1;have k1:B3 w w.heap.size 194 #[.bool b,.slice A n c] 194 #[.bool b',.slice A' n' c'] 65 #[.bool false,.slice none 0 0,.slice none 0 0] w1:=by rw [hw1];exact ⟨((Blk.new w _ _).alloc _).alloc _,(ai _ _ _ (by simp)).alloc _,ai _ _ _ (by simp),(((ae w).alloc Qr _).alloc (by simp) _).alloc (by simp <;> omega) _⟩
 replace h:=h.belw k1.q;replace h':=h'.belw k1.q;clear hw1;have y:=k1.s.v2;go_wp2_with fail;(refine (gP _ b A n c z k h s H1.out (by omega)).mono ?_);rintro e w2 ⟨rfl,hb2⟩;replace k1:=k1.call hb2;replace h:=h.belw hb2;replace h':=h'.belw hb2;clear hb2 y;by_cases hz:z=0
 ·obtain rfl:s=0:=by rw [← H1.out,hz];rfl
  have hq0:q=0:=by rw [← HQ.out,hz,Rat.zero_divInt]
  subst hq0;have y:=k1.r.v3;go_wp2_with fail;refine bodyPost_ret (v:=.agg #[.bool false,.slice none 0 0,.slice none 0 0]) (by simp [results,Tryz.results237,go_sem, *] <;> trivial) rfl ?_;exact ⟨false,none,0,0,none,0,0,rfl,QV.zero _ _,((k1.q.setCell (p:=⟨w.heap.size+1+1,0,none⟩) (by show w.heap.size≤w.heap.size+1+1;omega) (.bool false)).setCell (p:=⟨w.heap.size+1+1,1,none⟩) (by show w.heap.size≤w.heap.size+1+1;omega) (.slice none 0 0)).setCell (p:=⟨w.heap.size+1+1,2,none⟩) (by show w.heap.size≤w.heap.size+1+1;omega) (.slice none 0 0)⟩
 obtain ⟨hp,hqq,hsg⟩:=oY hz HD.out HQ.out;have HP:=Qh hp;have HQQ:=Qh hqq;have HSG:=Qh hsg;have u1:(s == 0)=false:=beq_eq_false_iff_ne.2 (by rw [← H1.out];exact fun e=>hz (Int.sign_eq_zero_iff_zero.1 e));have u2:(s=0)=False:=by simpa using u1
 clear hz hp hqq hsg HQ;have y:=k1.t.v2;go_wp2_with fail;(refine (gP _ b' A' n' c' z' k' h' s' H2.out (by omega)).mono ?_);rintro e w3 ⟨rfl,hb3⟩;replace k1:=k1.call hb3;replace h:=h.belw hb3;replace h':=h'.belw hb3;clear hb3 y;obtain ⟨y1,hy1⟩:∃ y,sgz z z'=y:=⟨_,rfl⟩;obtain ⟨y2,hy2⟩:∃ y,sgz z' z'=y:=⟨_,rfl⟩;rw [hy1] at HQQ HSG;rw [hy2] at HP HQQ;have HY1:=Qh hy1;have HY2:=Qh hy2;clear hy1 hy2;go_upto_if 18 with fail;go_cut [] (fun wx=>∃ b8 A8 n8 c8 b9 A9 n9 c9,B3 w w.heap.size 194 #[.bool b8,.slice A8 n8 c8] 194 #[.bool b9,.slice A9 n9 c9] 65 #[.bool false,.slice none 0 0,.slice none 0 0] wx∧IZ wx b8 A8 n8 c8 y1 k∧IZ wx b9 A9 n9 c9 y2 k')
 case first =>
  have y:=k1.s.v2;have y9:=k1.t.v2;by_cases hn:z' < 0
  ·obtain rfl:s'=-1:=by rw [← H2.out];exact Int.sign_eq_neg_one_iff_neg.2 hn
   obtain rfl:-z=y1:=by rw [← HY1.out];exact (if_pos hn).symm
   obtain rfl:-z'=y2:=by rw [← HY2.out];exact (if_pos hn).symm
   clear hn;go_wp2_with fail
   go_region_with (first
    | (go_at_call 238;(with_reducible refine (fW _ b A n c z k ?_ ?_).mono ?_);(first | exact h | exact h.belw (aa (ae _) _) | fail);(omega);rintro e w5 ⟨b5,A5,n5,c5,rfl,h5,hb5⟩;replace hb5:=af (aa (ae _) 1) hb5;replace h':=h'.belw hb5;replace k1:=k1.call hb5;have y:=k1.s.v2;have y9:=k1.t.v2)
    | (go_at_call 238;(with_reducible refine (fW _ b' A' n' c' z' k' ?_ ?_).mono ?_);(exact h');(omega);rintro e w6 ⟨b6,A6,n6,c6,rfl,h6,hb6⟩;replace h5:=h5.belw hb6;replace k1:=k1.call hb6;have y:=k1.s.v2;have y9:=k1.t.v2))
   all_goals
    go_wp2_with fail;go_meet;exact ⟨_,_,_,_,_,_,_,_,(k1.p0 _ _).p1 _ _,h5.iz.keep ((k1.s.k2 (by decide) _ _).trans ((k1.p0 _ _).t.k2 (by decide) _ _)),h6.iz.keep ((k1.s.k2 (by decide) _ _).trans ((k1.p0 _ _).t.k2 (by decide) _ _))⟩
  have hp:0 < z':=by have:=HD.out;omega
  obtain rfl:s'=1:=by rw [← H2.out];exact Int.sign_eq_one_iff_pos.2 hp
  obtain rfl:z=y1:=by rw [← HY1.out];exact (if_neg hn).symm
  obtain rfl:z'=y2:=by rw [← HY2.out];exact (if_neg hn).symm
  clear hn hp;go_wp2_with fail;go_meet;exact ⟨_,_,_,_,_,_,_,_,k1,h,h'⟩
 case rest =>
  clear k1 h h' HY1 HY2;obtain ⟨b8,A8,n8,c8,b9,A9,n9,c9,k1,h8,h9⟩:=hcut;rename World=>w7;have y:=And.intro k1.s.v2 k1.t.v2;go_wp2_with fail;(refine (mj _ b8 A8 n8 c8 y1 k h8 b9 A9 n9 c9 y2 k' h9 (by omega)).mono ?_);rintro e w8 ⟨b3,A3,n3,c3,rfl,h3,hb8⟩;replace k1:=k1.call hb8;replace h8:=h8.belw hb8;replace h9:=h9.belw hb8;obtain ⟨g,hg⟩:∃ g:Int,((Nat.gcd y1.natAbs y2.natAbs:Nat):Int)=g:=⟨_,rfl⟩;have HG:=Qh hg;rw [hg] at h3;clear hb8 y hg;go_upto_region 6 with fail;refine gq ?_;intro w9 hw9;have q9:Below w8.heap.size w8 w9:=by rw [hw9];exact (ae w8).alloc Qr _
  have x9:Blk w9 w8.heap.size 194 #[.bool b3,.slice A3 n3 c3]:=by rw [hw9];exact Blk.new w8 _ _
  replace h8:=h8.belw q9;replace h9:=h9.belw q9;replace h3:=h3.belw q9;replace k1:=k1.call q9;clear hw9 q9;have g0:g≠0:=by rw [← HG.out];exact sT HP.out
  have m1:y1 % g=0:=by rw [← HG.out];exact Int.emod_eq_zero_of_dvd (Int.ofNat_dvd_left.2 (Nat.gcd_dvd_left _ _))
  have m2:y2 % g=0:=by rw [← HG.out];exact Int.emod_eq_zero_of_dvd (Int.ofNat_dvd_left.2 (Nat.gcd_dvd_right _ _))
  have M1:=Qh m1;have M2:=Qh m2;clear m1 m2;have y:=And.intro k1.s.v2 x9.v2;go_wp2_with fail;(refine (mr _ b8 A8 n8 c8 y1 k h8 b3 A3 n3 c3 g (k+k') h3.iz (by omega) g0 M1.out).mono ?_);rintro e w10 ⟨b4,A4,n4,c4,bx,Ax,nx,cx,rfl,h4,_,hb10⟩;replace k1:=k1.call hb10;replace x9:=x9.b hb10;replace h9:=h9.belw hb10;replace h3:=h3.belw hb10;clear hb10 y;go_upto_region 7 with fail;refine gq ?_;intro w11 hw11;have q11:Below w10.heap.size w10 w11:=by rw [hw11];exact ((ae w10).alloc Qr _).alloc (by simp) _
  have x11:Blk w11 w10.heap.size 194 #[.bool b4,.slice A4 n4 c4]:=by rw [hw11];exact (Blk.new w10 _ _).alloc _
  replace k1:=k1.call q11;replace x9:=x9.b q11;replace h9:=h9.belw q11;replace h3:=h3.belw q11;replace h4:=h4.belw q11;clear hw11 q11;have y:=And.intro k1.t.v2 x9.v2;go_wp2_with fail;(refine (mr _ b9 A9 n9 c9 y2 k' h9 b3 A3 n3 c3 g (k+k') h3.iz (by omega) g0 M2.out).mono ?_);rintro e w12 ⟨b5,A5,n5,c5,bz,Az,nz,cz,rfl,h5,_,hb12⟩;replace k1:=k1.call hb12;replace x11:=x11.b hb12;replace h4:=h4.belw hb12;clear hb12 y;go_upto_region 8 with fail;refine gq ?_;intro w13 hw13;have q13:Below w12.heap.size w12 w13:=by rw [hw13];exact ((ae w12).alloc Qr _).alloc (by simp) _
  have x13:Blk w13 w12.heap.size 194 #[.bool b5,.slice A5 n5 c5]:=by rw [hw13];exact (Blk.new w12 _ _).alloc _
  replace k1:=k1.call q13;replace x11:=x11.b q13;replace h4:=h4.belw q13;replace h5:=h5.belw q13;clear hw13 q13;have y:=And.intro x11.v2 (And.intro x13.v2 k1.r.v3);go_wp2_with fail;refine bodyPost_ret (v:=.agg #[.bool b4,.slice A4 n4 c4,.slice A5 n5 c5]) (by simp [results,Tryz.results237,go_sem, *] <;> trivial) rfl ?_;clear y;have kp:=k1.r.k3 (by decide) (.bool b4) (.slice A4 n4 c4) (.slice A5 n5 c5);obtain ⟨e1,e2,e3⟩:=pD (fun e=>by rw [e] at HSG;rcases HSG.out with h | h <;> cases h) HP.out HQQ.out
  rw [HG.out] at e1 e2 e3;exact ⟨_,_,_,_,_,_,_,rfl,QV.mk_ (by rw [e1];exact h4.2.1.keep kp) (by rw [e2];exact h5.2.1.keep kp) (by rw [e3];exact h4.1.symm) HS.out,((k1.q.setCell (p:=⟨w.heap.size+1+1,0,none⟩) (by show w.heap.size≤w.heap.size+1+1;omega) _).setCell (p:=⟨w.heap.size+1+1,1,none⟩) (by show w.heap.size≤w.heap.size+1+1;omega) _).setCell (p:=⟨w.heap.size+1+1,2,none⟩) (by show w.heap.size≤w.heap.size+1+1;omega) _⟩
theorem nA (w:World) (A n c l) (wa:Wd w A n c l) (hn:n≤1099511627776) (A' n' c' l') (wb:Wd w A' n' c' l') (hn':n'≤1099511627776) :
 Calls Tryz.prog 253 #[.slice A n c,.slice A' n' c'] w (eK w (aj (val l * val l'))):=by
 have HL:=Qh wa.2.1;have HL':=Qh wb.2.1;go_in;go_wp2_with (at_make;refine aH _ rfl _ _ rfl _ _ _ _ (n+n') rfl rfl (by omega) (by omega) (by omega) ?_);go_loopw [18] (fun iv wr=>∃ (i:Nat) (L:List Nat),i≤n∧iv=.int .i64 (i:Nat)∧L.length=n+n'∧oG l l' L (n+n') n' i∧Blk wr w.heap.size 58 (cellsOf L)∧Below w.heap.size w wr) (fun iv _=>n - (intOf iv).toNat)
 case atStart =>
  refine ⟨0,List.replicate (n+n') 0,Nat.zero_le _,rfl,by simp,⟨by intro x hx;rw [List.eq_of_mem_replicate hx];omega,fun j _=>?_,?_⟩,Blk.new _ _ _,(Below.refl _ _).alloc Qr _⟩
  ·unfold wd;by_cases hj:j < n+n' <;> simp [List.getD,hj]
  rw [Sm]
  have:∀ m,Sm (wd (List.replicate (n+n') 0)) m=0:=by
   intro m
   induction m with
   | zero=>rfl
   | succ m ih =>
    rw [Sm,ih];unfold wd;by_cases hj:m < n+n' <;> simp [List.getD,hj]
  rw [this];simp
 case round =>
  obtain ⟨i,L,hi,rfl,hLM,hI,hB,hbel⟩:=hrel;have hKp:=Qh ((Kp.refl w).below hbel);have HI:=Qh hI;have HB:=Qh hB;have HLM:=Qh hLM;clear hI hB hLM;by_cases hkM:i < n
  ·obtain ⟨x,hx⟩:∃ x,wd l i=x:=⟨_,rfl⟩
   have hx1:x < 4294967296:=by rw [← hx];exact wa.lt i
   have HX:=Qh hx;clear hx;go_wp2_with fail;obtain ⟨wo,hwo⟩:∃ wo:World,wo=wr:=⟨_,rfl⟩;have HWO:=Qh hwo;clear hwo;go_loopw [7,23] (fun cv kv w2=>∃ (k cr:Nat) (L2:List Nat),k≤n'∧kv=.int .i64 (k:Nat)∧cv=.int .u64 (cr:Nat)∧cr < 4294967296∧L2.length=n+n'∧oH l l' L2 (n+n') n' i x k cr∧Blk w2 w.heap.size 58 (cellsOf L2)∧Below w.heap.size w w2) (fun _ kv _=>n' - (intOf kv).toNat)
   case atStart=>exact ⟨0,0,L,Nat.zero_le _,rfl,rfl,by omega,HLM.out,⟨HI.out.1,HI.out.2.1,by rw [HI.out.2.2];simp [Sm]⟩,HB.out,hbel⟩
   case round =>
    obtain ⟨k,cr,L2,hk,rfl,rfl,hcr,hLM2,hI2,hB2,hbel2⟩:=hrel;have hKp2:=Qh ((Kp.refl w).below hbel2);have HI2:=Qh hI2;have HB2:=Qh hB2;have HLM2:=Qh hLM2;clear hI2 hB2 hLM2;by_cases hkk:k < n'
    ·obtain ⟨g2,o2,rfl,hgl2,hc2⟩:=(wb.keep hKp2.out).at2 (by omega)
     obtain ⟨g,o,rfl,hgl,hc1⟩:=(wa.keep hKp2.out).at2 (by omega);have hcx:=hc1 i hkM;rw [HX.out] at hcx;clear hc1;have hcy:=hc2 k hkk;obtain ⟨y,z,hy,hz⟩:∃ y z,wd l' k=y∧wd L2 (i+k)=z:=⟨_,_,rfl,rfl⟩;have hy1:y < 4294967296:=by rw [← hy];exact wb.lt k
     have hz1:z < 4294967296:=by rw [← hz];exact aU HI2.out.1 _
     rw [hy] at hcy;have hck:=HB2.out.cell (i+k);rw [ar (by rw [HLM2.out];omega),hz] at hck;have hfk:=HB2.out.frozen (i+k);have HY:=Qh hy;have HZ:=Qh hz;clear hy hz hc2;obtain ⟨p,hp⟩:∃ d,IntKind.u64.wrap ((x:Int) * (y:Int))=d:=⟨_,rfl⟩;obtain ⟨q,hq⟩:∃ d,IntKind.u64.wrap (p+(z:Int))=d:=⟨_,rfl⟩;obtain ⟨s,hs⟩:∃ d,IntKind.u64.wrap (q+(cr:Int))=d:=⟨_,rfl⟩;have HD:=Qh (gj hx1 hy1 hz1 hcr hp hq (show IntKind.u64.wrap ((cr:Int)+q)=s by rw [Int.add_comm];exact hs));go_wp2;go_quiet (fail);go_wp2;obtain ⟨es,hs2⟩:=HD.out;clear hp hq hs;go_roundw
     case rel =>
      refine ⟨k+1,(cr+x * y+z) / 4294967296,L2.set (i+k) ((cr+x * y+z) % 4294967296),by omega,by go_num,by rw [es];go_num,hs2,by rw [List.length_set];exact HLM2.out,⟨wds_set HI2.out.1 _ (Nat.mod_lt _ (by omega)),?_,?_⟩,?_,(aa hbel2 _).setCell Qr _⟩
      ·intro j hj;rw [ba,if_neg (by omega)];exact HI2.out.2.1 j hj
      ·have hm:=bX L2 (i+k) ((cr+x * y+z) % 4294967296) (n+n') (by rw [HLM2.out];omega) (by omega)
       rw [HZ.out] at hm;have ht:=gi (o:=z) (x:=x) (y:=y) (Sb:=Sm (wd l') k) (Pi:=4294967296 ^ i) (Pk:=4294967296 ^ k) HI2.out.2.2 (by rw [Nat.pow_add]) hm;rw [← Nat.add_assoc,Nat.pow_succ,Sm,HY.out];exact ht
      exact (HB2.out.below (aa (ae _) _) HB2.out.lt).setW (i+k) _ _ (by rw [es];omega)
     case measure=>simp [intOf];omega
    have hk2:k=n':=by omega
    have HK2:=Qh hk2;have hck:=HB2.out.cell (i+n');have hz:wd L2 (i+n')=0:=HI2.out.2.1 _ (by omega);rw [ar (by rw [HLM2.out];omega),hz] at hck;have hfk:=HB2.out.frozen (i+n');have hge:n'≤k:=by omega
    clear hk2 hkk hz;go_wp2;go_roundw
    case rel =>
     refine ⟨i+1,L2.set (i+n') cr,by omega,by go_num,by rw [List.length_set];exact HLM2.out,⟨wds_set HI2.out.1 _ hcr,?_,?_⟩,?_,hbel2.setCell Qr _⟩
     ·intro j hj;rw [ba,if_neg (by omega)];exact HI2.out.2.1 j (by omega)
     ·have hm:=bX L2 (i+n') cr (n+n') (by rw [HLM2.out];omega) (by omega)
      rw [HI2.out.2.1 _ (by omega),Nat.zero_mul,Nat.add_zero] at hm;have h2:=HI2.out.2.2;rw [HK2.out,aK l' (by rw [← HL'.out];exact Qr)] at h2;rw [hm,h2,Sm,HX.out,Nat.add_mul];congr 1;rw [Nat.mul_assoc,Nat.mul_comm (val l'),← Nat.mul_assoc]
     exact HB2.out.setW (i+n') _ _ rfl
    case measure=>simp [intOf];omega
  have hkk:i=n:=by omega
  subst hkk
  have hv2:val L=val l * val l':=by
   have h1:=HI.out.2.2;rw [aK L (by rw [HLM.out];exact Qr),aK l (by rw [← HL.out];omega)] at h1;exact h1
  have HV2:=Qh hv2;clear hv2;go_wp2_with fail;refine (cN _ _ (i+n') (i+n') L ?_ ?_).mono ?_
  ·exact HB.out.wdN HI.out.1 HLM.out
  ·omega
  rintro e w1 ⟨A1,n1,c1,rfl,h1,hb1⟩;go_wp2;go_ret;rw [HV2.out] at h1;exact ⟨_,_,_,rfl,h1,hbel.trans (hb1.mono hbel.size)⟩
theorem rC (w:World) (b:Bool) (A n c l) (wa:Wd w A n c l) (hn:n≤500000000000) (b':Bool) (A' n' c' l') (wb:Wd w A' n' c' l') (hn':n'≤500000000000) :
 Calls Tryz.prog 236 #[.agg #[.bool b,.slice A n c],.agg #[.bool b',.slice A' n' c']] w (eC w (wh (WD.z ⟨b,l⟩ * WD.z ⟨b',l'⟩))):=by
 have HL:=Qh wa.2.1;have HL':=Qh wb.2.1;go_in;go_wp2_with fail;have b0:Below w.heap.size w (((w.alloc (.cells #[.bool b,.slice A n c] 194)).alloc (.cells #[.bool b',.slice A' n' c'] 194)).alloc (.cells #[.bool false,.slice none 0 0] 194)):=((((Below.refl _ _).alloc Qr _).alloc (by simp) _).alloc (by simp;omega) _);generalize hW0:(((w.alloc (.cells #[.bool b,.slice A n c] 194)).alloc (.cells #[.bool b',.slice A' n' c'] 194)).alloc (.cells #[.bool false,.slice none 0 0] 194))=W0 at b0 ⊢;have c00:W0.cell? ⟨w.heap.size,0,none⟩=some (.bool b):=by subst hW0;simp [go_sem]
 have f00:W0.frozen? ⟨w.heap.size,0,none⟩=false:=by subst hW0;simp [go_sem]
 have c01:W0.cell? ⟨w.heap.size,1,none⟩=some (.slice A n c):=by subst hW0;simp [go_sem]
 have f01:W0.frozen? ⟨w.heap.size,1,none⟩=false:=by subst hW0;simp [go_sem]
 have c10:W0.cell? ⟨w.heap.size+1,0,none⟩=some (.bool b'):=by subst hW0;simp [go_sem]
 have f10:W0.frozen? ⟨w.heap.size+1,0,none⟩=false:=by subst hW0;simp [go_sem]
 have c11:W0.cell? ⟨w.heap.size+1,1,none⟩=some (.slice A' n' c'):=by subst hW0;simp [go_sem]
 have f11:W0.frozen? ⟨w.heap.size+1,1,none⟩=false:=by subst hW0;simp [go_sem]
 have c20:W0.cell? ⟨w.heap.size+1+1,0,none⟩=some (.bool false):=by subst hW0;simp [go_sem]
 have f20:W0.frozen? ⟨w.heap.size+1+1,0,none⟩=false:=by subst hW0;simp [go_sem]
 have c21:W0.cell? ⟨w.heap.size+1+1,1,none⟩=some (.slice none 0 0):=by subst hW0;simp [go_sem]
 have f21:W0.frozen? ⟨w.heap.size+1+1,1,none⟩=false:=by subst hW0;simp [go_sem]
 have x0:Box W0 w.heap.size 194:=by subst hW0;exact ((bi _ _ _ (by simp)).alloc _).alloc _
 have x1:Box W0 (w.heap.size+1) 194:=by subst hW0;exact (bi _ _ _ (by simp)).alloc _
 have x2:Box W0 (w.heap.size+1+1) 194:=by subst hW0;exact bi _ _ _ (by simp)
 have hm0:fx (w.heap.size+1+1) (w.heap.size+1+1+1) 2 W0:=by subst hW0;exact iI (by simp)
 have hs0:w.heap.size+1+1+1≤W0.heap.size:=by subst hW0;simp
 clear hW0;have wa:=wa.belw b0;have wb:=wb.belw b0;have r0:Below W0.heap.size W0 W0:=ae _;have hRB:w.heap.size+1+1≤w.heap.size+1+1+1:=by omega
 go_region_held3 (fun w'=>Sees (w.heap.size+1+1) W0 w') (first | exact Sees.of (Nat.le_trans hRB hs0) (by assumption) | exact Sees.of (Nat.le_trans hRB hs0) (aa (by assumption) _) | exact (Sees.set (Sees.of (Nat.le_trans hRB hs0) (by assumption)) (by simp)) | exact (Sees.set (Sees.set (Sees.of (Nat.le_trans hRB hs0) (by assumption)) (by simp)) (by simp)))
  (first
   | (go_at_call 222;(with_reducible refine (cg _ b A n c l ?_ ?_).mono ?_);(exact wa);(omega);rintro e w1 ⟨rfl,hb1⟩;replace hb1:=af (aa (ae _) 1) hb1;have r1:=af r0 hb1;replace wa:=wa.belw hb1;replace wb:=wb.belw hb1)
   | (go_at_call 222;(with_reducible refine (cg _ b' A' n' c' l' ?_ ?_).mono ?_);(exact wb);(omega);rintro e w2 ⟨rfl,hb2⟩;have r2:=af r1 hb2;replace wa:=wa.belw hb2;replace wb:=wb.belw hb2)
   | (go_at_call 215;(with_reducible refine (bR _ b A n c l ?_ ?_).mono ?_);(exact wa);(omega);rintro e w3 ⟨A1,n1,c1,rfl,h1,hb3⟩;have r3:=af r2 hb3;replace wa:=wa.belw hb3;replace wb:=wb.belw hb3)
   | (go_at_call 215;(with_reducible refine (bR _ b' A' n' c' l' ?_ ?_).mono ?_);(exact wb);(omega);rintro e w4 ⟨A2,n2,c2,rfl,h2,hb4⟩;have r4:=af r3 hb4;replace wa:=wa.belw hb4;replace wb:=wb.belw hb4;replace h1:=h1.belw hb4)
   | (go_at_call 253;(with_reducible refine (nA _ A1 n1 c1 (WD.m ⟨b,l⟩) ?_ ?_ A2 n2 c2 (WD.m ⟨b',l'⟩) ?_ ?_).mono ?_);(exact h1);(exact Nat.le_trans (h1.m_len (by rw [← HL.out];exact hn)) (by decide));(exact h2);(exact Nat.le_trans (h2.m_len (by rw [← HL'.out];exact hn')) (by decide));rintro e w5 ⟨A3,n3,c3,rfl,h3,hb5⟩;have r5:=af r4 hb5;replace wa:=wa.belw hb5;replace wb:=wb.belw hb5;replace h1:=h1.belw hb5;replace h2:=h2.belw hb5)
   | (go_at_call 213;(with_reducible refine (bS _ (!(WD.s ⟨b,l⟩ == WD.s ⟨b',l'⟩)) A3 n3 c3 (aj (val (WD.m ⟨b,l⟩) * val (WD.m ⟨b',l'⟩))) (WD.z ⟨b,l⟩ * WD.z ⟨b',l'⟩) ?_ ?_ ?_).mono ?_);(exact h3);(rw [h3.2.1];exact iJ h1 h2 (Nat.le_trans (Nat.add_le_add (h1.m_len (by rw [← HL.out];exact hn)) (h2.m_len (by rw [← HL'.out];exact hn'))) (by decide)));(rw [ah];exact (se _ _).symm);rintro e w6 ⟨A4,n4,c4,rfl,h4,hb6⟩;have r6:=af r5 hb6;replace wa:=wa.belw hb6;replace wb:=wb.belw hb6;replace h1:=h1.belw hb6;replace h2:=h2.belw hb6;replace h3:=h3.belw hb6;obtain ⟨⟨sc,sf⟩,sr,sz⟩:=bf.of (by omega) hs0 hm0 r6))
 clear hRB;go_wp2_with fail;refine bodyPost_ret (v:=.agg #[.bool _,.slice A4 n4 c4]) (by simp [results,Tryz.results236,go_sem,sr];rfl) rfl ?_;have x:=x2.below r6;refine fw ?_ ?_ ?_
 ·rfl
 ·exact h4.keep (kp2 x (by decide) _ _ _ _)
 exact ((b0.trans (r6.mono b0.size)).setCell (by dsimp only;omega) _).setCell (by dsimp only;omega) _
theorem jT (w:World) (b A n c z k) (h:IZ w b A n c z k) (b' A' n' c' z' k') (h':IZ w b' A' n' c' z' k') (hk:k+k'≤1000000000):Calls Tryz.prog 236 #[.agg #[.bool b,.slice A n c],.agg #[.bool b',.slice A' n' c']] w (eP w (z * z') (k+k')):=by
 have hz:=h.lt;have hz':=h'.lt;obtain ⟨l,h1,rfl,h3⟩:=h;obtain ⟨l',h1',rfl,h3'⟩:=h';exact (rC w b A n c l h1 (by omega) b' A' n' c' l' h1' (by omega)).mono fun _ _ r=>r.i (bL hz hz')
theorem ug (w:World) (b A n c D m e q k) (h:QZ w b A n c D m e q k) (h0:0 < k) (hk:k≤40000000) :
 Calls Tryz.prog 203 #[.agg #[.bool b,.slice A n c,.slice D m e]] w (qT w (-q) k):=by
 have HS:=Qh (h.sz h0);go_in;go_wp2_with fail;(with_reducible refine (fZ _ b A n c D m e (q) (k) ?_ ?_ ?_).mono ?_);(exact (h.belw (((Below.refl _ _).alloc Qr _).alloc (by simp) _)));(omega);(omega);rintro e w1 ⟨b1,A1,n1,c1,b'1,A'1,n'1,c'1,rfl,h1,h'1,hb1⟩;have q1:=hb1.q2;replace h:=h.belw q1;have x1a:Blk w1 w.heap.size 65 #[.bool b,.slice A n c,.slice D m e]:=((ai _ _ _ (by simp)).alloc _).below hb1 (by simp <;> omega);have x1b:=(ai _ _ _ (g:=w.heap.size+1) (by simp)).below hb1 (by simp);have bw1:=(ae w).trans (q1.mono (ae w).size);have lw1:=hb1.l2;clear q1;go_wp2_with fail;have p2:=(((Kp.refl w1).alloc (.cells #[.bool b1,.slice A1 n1 c1] 194)).alloc (.cells #[.bool b'1,.slice A'1 n'1 c'1] 194));have bw2:=((bw1.alloc (by first | omega | (simp <;> omega)) (.cells #[.bool b1,.slice A1 n1 c1] 194)).alloc (by first | omega | (simp <;> omega)) (.cells #[.bool b'1,.slice A'1 n'1 c'1] 194));have x2a:Blk ((w1.alloc (.cells #[.bool b1,.slice A1 n1 c1] 194)).alloc (.cells #[.bool b'1,.slice A'1 n'1 c'1] 194)) w1.heap.size 194 #[.bool b1,.slice A1 n1 c1]:=((ai _ _ _ (by simp)).alloc (.cells #[.bool b'1,.slice A'1 n'1 c'1] 194));have x2b:Blk ((w1.alloc (.cells #[.bool b1,.slice A1 n1 c1] 194)).alloc (.cells #[.bool b'1,.slice A'1 n'1 c'1] 194)) (w1.heap.size+1) 194 #[.bool b'1,.slice A'1 n'1 c'1]:=(ai _ _ _ (by simp));replace x1a:=((x1a.alloc (.cells #[.bool b1,.slice A1 n1 c1] 194)).alloc (.cells #[.bool b'1,.slice A'1 n'1 c'1] 194));replace x1b:=((x1b.alloc (.cells #[.bool b1,.slice A1 n1 c1] 194)).alloc (.cells #[.bool b'1,.slice A'1 n'1 c'1] 194));have lw2:w1.heap.size+2≤((w1.alloc (.cells #[.bool b1,.slice A1 n1 c1] 194)).alloc (.cells #[.bool b'1,.slice A'1 n'1 c'1] 194)).heap.size:=by simp
 generalize hE2:((w1.alloc (.cells #[.bool b1,.slice A1 n1 c1] 194)).alloc (.cells #[.bool b'1,.slice A'1 n'1 c'1] 194))=w2 at p2 bw2 lw2 x2a x2b x1a x1b ⊢;clear hE2;replace h:=h.keep p2;replace h1:=h1.keep p2;replace h'1:=h'1.keep p2;clear bw1;have lx1a:=dj x1a.lt;have cx1ba:w2.cell? ⟨w.heap.size+1,0,none⟩=some (.bool false):=x1b.cell 0;have fx1ba:w2.frozen? ⟨w.heap.size+1,0,none⟩=false:=x1b.frozen 0;have cx1bb:w2.cell? ⟨w.heap.size+1,1,none⟩=some (.slice none 0 0):=x1b.cell 1;have fx1bb:w2.frozen? ⟨w.heap.size+1,1,none⟩=false:=x1b.frozen 1;have cx1bc:w2.cell? ⟨w.heap.size+1,2,none⟩=some (.slice none 0 0):=x1b.cell 2;have fx1bc:w2.frozen? ⟨w.heap.size+1,2,none⟩=false:=x1b.frozen 2;have lx1b:=dY x1b.lt;have cx2a:=x2a.c2;have lx2a:=dj x2a.lt;have cx2b:=x2b.c2;have lx2b:=dY x2b.lt;have nfx1_0_0:¬ w.heap.size=w.heap.size+1:=by omega
 have nex1_0_0:¬ w.heap.size=w.heap.size+1:=by omega
 have nfx2_0_0:¬ w1.heap.size=w.heap.size+1:=by omega
 have nex2_0_0:¬ w1.heap.size=w.heap.size+1:=by omega
 have nfx2_1_0:¬ w1.heap.size+1=w.heap.size+1:=by omega
 have nex2_1_0:¬ w1.heap.size=w.heap.size:=by omega
 go_region_held3 (fun w'=>SeesX w2.heap.size (w.heap.size+1) w2 w') (first | with_reducible exact SeesX.of Qr (by assumption) | with_reducible exact SeesX.of Qr (ae _).drew | with_reducible exact (SeesX.set (SeesX.set (SeesX.set (SeesX.of Qr (by assumption))))) | with_reducible exact (SeesX.set (SeesX.set (SeesX.of Qr (by assumption)))) | with_reducible exact (SeesX.set (SeesX.of Qr (by assumption))) | exact SeesX.of Qr (aa (ae _) 1) | exact SeesX.of Qr (aa (by assumption) _))
  (first
   | (go_at_call 238;(with_reducible refine (fW _ b1 A1 n1 c1 ((q).num) ((k)) ?_ ?_).mono ?_);(exact h1.iz);(omega);rintro e w3 ⟨b3,A3,n3,c3,rfl,h3,hb3⟩;replace hb3:=af (aa (ae _) 1) hb3;have q3:Below w2.heap.size w2 w3:=af (ae w2) hb3;replace h:=h.belw hb3;replace h1:=h1.belw hb3;replace h'1:=h'1.belw hb3)
   | (go_at_call 237;(with_reducible refine (pE _ b3 A3 n3 c3 (-((q).num)) (((k))) ?_ b'1 A'1 n'1 c'1 (((q).den:Int)) ((k)) ?_ (-q) (k) ?_ ?_ ?_ ?_).mono ?_);(exact h3.iz);(exact h'1.iz);(exact eB _);(exact (tF q).symm);(exact sC HS.out);(omega);rintro e w4 ⟨b4,A4,n4,c4,A'4,n'4,c'4,rfl,h4,hb4⟩;have q4:Below w2.heap.size w2 w4:=af q3 hb4;replace h:=h.belw hb4;replace h1:=h1.belw hb4;replace h'1:=h'1.belw hb4;replace h3:=h3.belw hb4;have x1b:=x1b.b q4;obtain ⟨cx1ba,cx1bb,cx1bc⟩:=x1b.c3;obtain ⟨fx1ba,fx1bb,fx1bc⟩:=x1b.f3))
 have bw4:=bw2.trans (q4.mono bw2.size);clear lx1a cx1ba fx1ba cx1bb fx1bb cx1bc fx1bc lx1b cx2a lx2a cx2b lx2b;replace x1a:=x1a.b q4;replace x2a:=x2a.b q4;replace x2b:=x2b.b q4;have lw4:=q4.size;obtain ⟨cx1ba,cx1bb,cx1bc⟩:=x1b.c3;obtain ⟨fx1ba,fx1bb,fx1bc⟩:=x1b.f3;go_wp2_with fail;refine bodyPost_ret (v:=.agg #[.bool b4,.slice A4 n4 c4,.slice A'4 n'4 c'4]) (by simp [results,Tryz.results203,go_sem, *] <;> trivial) rfl ?_;exact ⟨b4,A4,n4,c4,A'4,n'4,c'4,rfl,h4.keep ((((Kp.refl w4).sb (w.heap.size+1) 0 x1b.box (by decide) (.bool b4)).sb (w.heap.size+1) 1 (x1b.box.set ⟨w.heap.size+1,0,none⟩ (.bool b4)) (by decide) (.slice A4 n4 c4)).sb (w.heap.size+1) 2 ((x1b.box.set ⟨w.heap.size+1,0,none⟩ (.bool b4)).set ⟨w.heap.size+1,1,none⟩ (.slice A4 n4 c4)) (by decide) (.slice A'4 n'4 c'4)),(((bw4.sc (w.heap.size+1) 0 (by omega) (.bool b4)).sc (w.heap.size+1) 1 (by omega) (.slice A4 n4 c4)).sc (w.heap.size+1) 2 (by omega) (.slice A'4 n'4 c'4))⟩
theorem uh (w:World) (b A n c D m e q k) (h:QZ w b A n c D m e q k) (b' A' n' c' D' m' e' q' k') (h':QZ w b' A' n' c' D' m' e' q' k') (h0:0 < k) (hk:k≤40000000) (h0':0 < k') (hk':k'≤40000000) :
 Calls Tryz.prog 217 #[.agg #[.bool b,.slice A n c,.slice D m e],.agg #[.bool b',.slice A' n' c',.slice D' m' e']] w (qT w (q+q') (k+k'+1)):=by
 have HS:=Qh (h.sz h0);have HS':=Qh (h'.sz h0');go_in;go_wp2_with fail;(with_reducible refine (fZ _ b A n c D m e (q) (k) ?_ ?_ ?_).mono ?_);(exact (h.belw ((((Below.refl _ _).alloc Qr _).alloc (by simp) _).alloc (by simp <;> omega) _)));(omega);(omega);rintro e w1 ⟨b1,A1,n1,c1,b'1,A'1,n'1,c'1,rfl,h1,h'1,hb1⟩;have q1:=hb1.q3;replace h:=h.belw q1;replace h':=h'.belw q1;have x1a:Blk w1 w.heap.size 65 #[.bool b,.slice A n c,.slice D m e]:=(((ai _ _ _ (by simp)).alloc _).alloc _).below hb1 (by simp <;> omega);have x1b:=((ai _ _ _ (g:=w.heap.size+1) (by simp)).alloc _).below hb1 (by simp <;> omega);have x1c:=(ai _ _ _ (g:=w.heap.size+1+1) (by simp)).below hb1 (by simp);have bw1:=(ae w).trans (q1.mono (ae w).size);have lw1:=hb1.l3;clear q1;have cx1b:=x1b.c3;have lx1b:=dY x1b.lt;go_wp2_with fail;(with_reducible refine (fZ _ b' A' n' c' D' m' e' (q') (k') ?_ ?_ ?_).mono ?_);(exact (h'.belw (((Below.refl _ _).alloc Qr _).alloc (by simp) _)));(omega);(omega);rintro e w2 ⟨b2,A2,n2,c2,b'2,A'2,n'2,c'2,rfl,h2,h'2,hb2⟩;clear cx1b lx1b;have q2:=hb2.q2;replace h:=h.belw q2;replace h':=h'.belw q2;replace h1:=h1.belw q2;replace h'1:=h'1.belw q2;replace x1a:=x1a.b q2;replace x1b:=x1b.b q2;replace x1c:=x1c.b q2;have x2a:Blk w2 w1.heap.size 194 #[.bool b1,.slice A1 n1 c1]:=((ai _ _ _ (by simp)).alloc _).below hb2 (by simp <;> omega);have x2b:=(ai _ _ _ (g:=w1.heap.size+1) (by simp)).below hb2 (by simp);have bw2:=bw1.trans (q2.mono bw1.size);have lw2:=hb2.l2;clear q2 bw1;go_wp2_with fail;have p3:=(((Kp.refl w2).alloc (.cells #[.bool b2,.slice A2 n2 c2] 194)).alloc (.cells #[.bool b'2,.slice A'2 n'2 c'2] 194));have bw3:=((bw2.alloc (by first | omega | (simp <;> omega)) (.cells #[.bool b2,.slice A2 n2 c2] 194)).alloc (by first | omega | (simp <;> omega)) (.cells #[.bool b'2,.slice A'2 n'2 c'2] 194));have x3a:Blk ((w2.alloc (.cells #[.bool b2,.slice A2 n2 c2] 194)).alloc (.cells #[.bool b'2,.slice A'2 n'2 c'2] 194)) w2.heap.size 194 #[.bool b2,.slice A2 n2 c2]:=((ai _ _ _ (by simp)).alloc (.cells #[.bool b'2,.slice A'2 n'2 c'2] 194));have x3b:Blk ((w2.alloc (.cells #[.bool b2,.slice A2 n2 c2] 194)).alloc (.cells #[.bool b'2,.slice A'2 n'2 c'2] 194)) (w2.heap.size+1) 194 #[.bool b'2,.slice A'2 n'2 c'2]:=(ai _ _ _ (by simp));replace x1a:=((x1a.alloc (.cells #[.bool b2,.slice A2 n2 c2] 194)).alloc (.cells #[.bool b'2,.slice A'2 n'2 c'2] 194));replace x1b:=((x1b.alloc (.cells #[.bool b2,.slice A2 n2 c2] 194)).alloc (.cells #[.bool b'2,.slice A'2 n'2 c'2] 194));replace x1c:=((x1c.alloc (.cells #[.bool b2,.slice A2 n2 c2] 194)).alloc (.cells #[.bool b'2,.slice A'2 n'2 c'2] 194));replace x2a:=((x2a.alloc (.cells #[.bool b2,.slice A2 n2 c2] 194)).alloc (.cells #[.bool b'2,.slice A'2 n'2 c'2] 194));replace x2b:=((x2b.alloc (.cells #[.bool b2,.slice A2 n2 c2] 194)).alloc (.cells #[.bool b'2,.slice A'2 n'2 c'2] 194));have lw3:w2.heap.size+2≤((w2.alloc (.cells #[.bool b2,.slice A2 n2 c2] 194)).alloc (.cells #[.bool b'2,.slice A'2 n'2 c'2] 194)).heap.size:=by simp
 generalize hE3:((w2.alloc (.cells #[.bool b2,.slice A2 n2 c2] 194)).alloc (.cells #[.bool b'2,.slice A'2 n'2 c'2] 194))=w3 at p3 bw3 lw3 x3a x3b x1a x1b x1c x2a x2b ⊢;clear hE3;replace h:=h.keep p3;replace h':=h'.keep p3;replace h1:=h1.keep p3;replace h'1:=h'1.keep p3;replace h2:=h2.keep p3;replace h'2:=h'2.keep p3;clear bw2;have cx2a:=x2a.c2;have lx2a:=dj x2a.lt;have cx2b:=x2b.c2;have lx2b:=dY x2b.lt;have cx3a:=x3a.c2;have lx3a:=dj x3a.lt;have cx3b:=x3b.c2;have lx3b:=dY x3b.lt
 refine iq (B:=w.heap.size) (fr:=fun xf=>⟨List.toArray (.agg #[.bool b,.slice A n c,.slice D m e] :: .agg #[.bool b',.slice A' n' c',.slice D' m' e'] :: .pointer (some ⟨w.heap.size,0,none⟩) :: .pointer (some ⟨w.heap.size+1,0,none⟩) :: .pointer (some ⟨w.heap.size+1+1,0,none⟩) :: .pointer (some ⟨w1.heap.size,0,none⟩) :: .pointer (some ⟨w1.heap.size+1,0,none⟩) :: .pointer (some ⟨w2.heap.size,0,none⟩) :: .pointer (some ⟨w2.heap.size+1,0,none⟩) :: .tuple #[.agg #[.bool b1,.slice A1 n1 c1],.agg #[.bool b'1,.slice A'1 n'1 c'1]] :: .agg #[.bool b,.slice A n c,.slice D m e] :: .tuple #[.agg #[.bool b1,.slice A1 n1 c1],.agg #[.bool b'1,.slice A'1 n'1 c'1]] :: .agg #[.bool b1,.slice A1 n1 c1] :: .agg #[.bool b'1,.slice A'1 n'1 c'1] :: .tuple #[.agg #[.bool b2,.slice A2 n2 c2],.agg #[.bool b'2,.slice A'2 n'2 c'2]] :: .agg #[.bool b',.slice A' n' c',.slice D' m' e'] :: .tuple #[.agg #[.bool b2,.slice A2 n2 c2],.agg #[.bool b'2,.slice A'2 n'2 c'2]] :: .agg #[.bool b2,.slice A2 n2 c2] :: .agg #[.bool b'2,.slice A'2 n'2 c'2] :: xf 0 :: xf 1 :: xf 2 :: xf 3 :: xf 4 :: xf 5 :: xf 6 :: xf 7 :: xf 8 :: xf 9 :: xf 10 :: []),[]⟩) (R:=fun i=>List.getD ((PEq (.agg #[.bool b1,.slice A1 n1 c1])) :: (PEq (.agg #[.bool b'2,.slice A'2 n'2 c'2])) :: (VI (((q).num) * (((q').den:Int))) (((k))+((k')))) :: (PEq (.agg #[.bool b2,.slice A2 n2 c2])) :: (PEq (.agg #[.bool b'1,.slice A'1 n'1 c'1])) :: (VI (((q').num) * (((q).den:Int))) (((k'))+((k)))) :: (VI ((((q).num) * (((q').den:Int)))+(((q').num) * (((q).den:Int)))) ((((k))+((k')))+(((k'))+((k)))+1)) :: (PEq (.agg #[.bool b'1,.slice A'1 n'1 c'1])) :: (PEq (.agg #[.bool b'2,.slice A'2 n'2 c'2])) :: (VI ((((q).den:Int)) * (((q').den:Int))) (((k))+((k')))) :: (VQ (q+q') (k+k'+1)) :: ua :: []) i (fun _ _=>True)) (es:=[]) (ow:=[⟨w.heap.size,12,0,65,#[.bool b,.slice A n c,.slice D m e],ks⟩,⟨w.heap.size+1,12,0,65,#[.bool b',.slice A' n' c',.slice D' m' e'],ks⟩,⟨w.heap.size+1+1,11,0,65,#[.bool false,.slice none 0 0,.slice none 0 0],CQ (q+q') (k+k'+1)⟩,⟨w1.heap.size,12,0,194,#[.bool b1,.slice A1 n1 c1],ks⟩,⟨w1.heap.size+1,12,0,194,#[.bool b'1,.slice A'1 n'1 c'1],ks⟩,⟨w2.heap.size,12,0,194,#[.bool b2,.slice A2 n2 c2],ks⟩,⟨w2.heap.size+1,12,0,194,#[.bool b'2,.slice A'2 n'2 c'2],ks⟩]) (x0:=(fun _=>undef)) (by kernel_rfl)
  (jD ⟨fun _ _=>rfl,fun _ _=>rfl,fun _ _=>rfl,fun _ _=>rfl,fun _ _=>rfl,fun _ _=>rfl,fun _ _=>rfl,fun _ _=>rfl,fun _ _=>rfl,fun _ _=>rfl,fun _ _=>rfl,fun _ _=>rfl,trivial⟩) (jD (ng _ 0 (by kernel_rfl))) (fY.get _ ⟨nh _,nh _,stI _ _,nh _,nh _,stI _ _,stI _ _,nh _,nh _,stI _ _,stQ _ _,ub,trivial⟩)
  (fun _ h=>nomatch h) (fmc ⟨iW,fmc ⟨iW,fmc ⟨scQ _ _,fmc ⟨iW,fmc ⟨iW,fmc ⟨iW,fmc ⟨iW,fun _ h=>nomatch h⟩⟩⟩⟩⟩⟩⟩) (fun _ h=>nomatch h) bw3.size
  (fmc ⟨⟨x1a,by show w.heap.size≤w.heap.size;omega⟩,fmc ⟨⟨x1b,by show w.heap.size≤w.heap.size+1;omega⟩,fmc ⟨⟨x1c,by show w.heap.size≤w.heap.size+1+1;omega⟩,fmc ⟨⟨x2a,by show w.heap.size≤w1.heap.size;omega⟩,fmc ⟨⟨x2b,by show w.heap.size≤w1.heap.size+1;omega⟩,fmc ⟨⟨x3a,by show w.heap.size≤w2.heap.size;omega⟩,fmc ⟨⟨x3b,by show w.heap.size≤w2.heap.size+1;omega⟩,fun _ h=>nomatch h⟩⟩⟩⟩⟩⟩⟩) (rm (by simp <;> omega))
  (jD ⟨?_,?_,?_,?_,?_,?_,?_,?_,?_,?_,?_,?_,trivial⟩) ?_
 ·exact .inl ⟨by simp,by simp,fun xf wq hk hbl hd K hK=>by
   have y:Blk wq w1.heap.size 194 #[.bool b1,.slice A1 n1 c1]:=hbl _ (List.Mem.tail _ (List.Mem.tail _ (List.Mem.tail _ (List.Mem.head _)))) (by simp [Region.binds]);obtain ⟨hcl0,hcl1⟩:=y.c2;(try dsimp only);go_simp
   exact hK.out (.agg #[.bool b1,.slice A1 n1 c1]) _ rfl (ae _)⟩
 ·exact .inl ⟨by simp,by simp,fun xf wq hk hbl hd K hK=>by
   have y:Blk wq (w2.heap.size+1) 194 #[.bool b'2,.slice A'2 n'2 c'2]:=hbl _ (List.Mem.tail _ (List.Mem.tail _ (List.Mem.tail _ (List.Mem.tail _ (List.Mem.tail _ (List.Mem.tail _ (List.Mem.head _))))))) (by simp [Region.binds]);obtain ⟨hcl0,hcl1⟩:=y.c2;(try dsimp only);go_simp
   exact hK.out (.agg #[.bool b'2,.slice A'2 n'2 c'2]) _ rfl (ae _)⟩
 ·exact .inl ⟨by simp,by simp,fun xf wq hk hbl hd K hK=>by
   have d0:xf 0=.agg #[.bool b1,.slice A1 n1 c1]:=hd ⟨0,.data⟩ (by simp) rfl;have d1:xf 1=.agg #[.bool b'2,.slice A'2 n'2 c'2]:=hd ⟨1,.data⟩ (by simp) rfl;(try dsimp only);(try simp only [d0,d1]);go_simp;go_at_call 236;(with_reducible refine (jT _ b1 A1 n1 c1 ((q).num) ((k)) ?_ b'2 A'2 n'2 c'2 (((q').den:Int)) ((k')) ?_ ?_).mono ?_);(exact (h1.keep hk).iz);(exact (h'2.keep hk).iz);(omega);rintro e wr ⟨b5,A5,n5,c5,rfl,h5,hbr⟩;have hz:=hK.out _ _ ⟨b5,A5,n5,c5,rfl,h5⟩ hbr;simp only [d0,d1] at hz
   exact hz⟩
 ·exact .inl ⟨by simp,by simp,fun xf wq hk hbl hd K hK=>by
   have y:Blk wq w2.heap.size 194 #[.bool b2,.slice A2 n2 c2]:=hbl _ (List.Mem.tail _ (List.Mem.tail _ (List.Mem.tail _ (List.Mem.tail _ (List.Mem.tail _ (List.Mem.head _)))))) (by simp [Region.binds]);obtain ⟨hcl0,hcl1⟩:=y.c2;(try dsimp only);go_simp
   exact hK.out (.agg #[.bool b2,.slice A2 n2 c2]) _ rfl (ae _)⟩
 ·exact .inl ⟨by simp,by simp,fun xf wq hk hbl hd K hK=>by
   have y:Blk wq (w1.heap.size+1) 194 #[.bool b'1,.slice A'1 n'1 c'1]:=hbl _ (List.Mem.tail _ (List.Mem.tail _ (List.Mem.tail _ (List.Mem.tail _ (List.Mem.head _))))) (by simp [Region.binds]);obtain ⟨hcl0,hcl1⟩:=y.c2;(try dsimp only);go_simp
   exact hK.out (.agg #[.bool b'1,.slice A'1 n'1 c'1]) _ rfl (ae _)⟩
 ·exact .inl ⟨by simp,by simp,fun xf wq hk hbl hd K hK=>by
   have d3:xf 3=.agg #[.bool b2,.slice A2 n2 c2]:=hd ⟨3,.data⟩ (by simp) rfl;have d4:xf 4=.agg #[.bool b'1,.slice A'1 n'1 c'1]:=hd ⟨4,.data⟩ (by simp) rfl;(try dsimp only);(try simp only [d3,d4]);go_simp;go_at_call 236;(with_reducible refine (jT _ b2 A2 n2 c2 ((q').num) ((k')) ?_ b'1 A'1 n'1 c'1 (((q).den:Int)) ((k)) ?_ ?_).mono ?_);(exact (h2.keep hk).iz);(exact (h'1.keep hk).iz);(omega);rintro e wr ⟨b6,A6,n6,c6,rfl,h6,hbr⟩;have hz:=hK.out _ _ ⟨b6,A6,n6,c6,rfl,h6⟩ hbr;simp only [d3,d4] at hz
   exact hz⟩
 ·exact .inl ⟨by simp,by simp,fun xf wq hk hbl hd K hK=>by
   obtain ⟨b5,A5,n5,c5,d2,h5⟩:VI (((q).num) * (((q').den:Int))) (((k))+((k'))) (xf 2) wq:=hd ⟨2,.data⟩ (by simp) rfl;obtain ⟨b6,A6,n6,c6,d5,h6⟩:VI (((q').num) * (((q).den:Int))) (((k'))+((k))) (xf 5) wq:=hd ⟨5,.data⟩ (by simp) rfl;(try dsimp only);(try simp only [d2,d5]);go_simp;go_at_call 242;(with_reducible refine (mh _ b5 A5 n5 c5 (((q).num) * (((q').den:Int))) (((k))+((k'))) ?_ b6 A6 n6 c6 (((q').num) * (((q).den:Int))) (((k'))+((k))) ?_ ?_).mono ?_);(exact h5.iz);(exact h6.iz);(omega);rintro e wr ⟨b7,A7,n7,c7,rfl,h7,hbr⟩;have hz:=hK.out _ _ ⟨b7,A7,n7,c7,rfl,h7⟩ hbr;simp only [d2,d5] at hz
   exact hz⟩
 ·exact .inl ⟨by simp,by simp,fun xf wq hk hbl hd K hK=>by
   have y:Blk wq (w1.heap.size+1) 194 #[.bool b'1,.slice A'1 n'1 c'1]:=hbl _ (List.Mem.tail _ (List.Mem.tail _ (List.Mem.tail _ (List.Mem.tail _ (List.Mem.head _))))) (by simp [Region.binds]);obtain ⟨hcl0,hcl1⟩:=y.c2;(try dsimp only);go_simp
   exact hK.out (.agg #[.bool b'1,.slice A'1 n'1 c'1]) _ rfl (ae _)⟩
 ·exact .inl ⟨by simp,by simp,fun xf wq hk hbl hd K hK=>by
   have y:Blk wq (w2.heap.size+1) 194 #[.bool b'2,.slice A'2 n'2 c'2]:=hbl _ (List.Mem.tail _ (List.Mem.tail _ (List.Mem.tail _ (List.Mem.tail _ (List.Mem.tail _ (List.Mem.tail _ (List.Mem.head _))))))) (by simp [Region.binds]);obtain ⟨hcl0,hcl1⟩:=y.c2;(try dsimp only);go_simp
   exact hK.out (.agg #[.bool b'2,.slice A'2 n'2 c'2]) _ rfl (ae _)⟩
 ·exact .inl ⟨by simp,by simp,fun xf wq hk hbl hd K hK=>by
   have d7:xf 7=.agg #[.bool b'1,.slice A'1 n'1 c'1]:=hd ⟨7,.data⟩ (by simp) rfl;have d8:xf 8=.agg #[.bool b'2,.slice A'2 n'2 c'2]:=hd ⟨8,.data⟩ (by simp) rfl;(try dsimp only);(try simp only [d7,d8]);go_simp;go_at_call 236;(with_reducible refine (jT _ b'1 A'1 n'1 c'1 (((q).den:Int)) ((k)) ?_ b'2 A'2 n'2 c'2 (((q').den:Int)) ((k')) ?_ ?_).mono ?_);(exact (h'1.keep hk).iz);(exact (h'2.keep hk).iz);(omega);rintro e wr ⟨b8,A8,n8,c8,rfl,h8,hbr⟩;have hz:=hK.out _ _ ⟨b8,A8,n8,c8,rfl,h8⟩ hbr;simp only [d7,d8] at hz
   exact hz⟩
 ·exact .inl ⟨by simp,by simp,fun xf wq hk hbl hd K hK=>by
   obtain ⟨b7,A7,n7,c7,d6,h7⟩:VI ((((q).num) * (((q').den:Int)))+(((q').num) * (((q).den:Int)))) ((((k))+((k')))+(((k'))+((k)))+1) (xf 6) wq:=hd ⟨6,.data⟩ (by simp) rfl;obtain ⟨b8,A8,n8,c8,d9,h8⟩:VI ((((q).den:Int)) * (((q').den:Int))) (((k))+((k'))) (xf 9) wq:=hd ⟨9,.data⟩ (by simp) rfl;(try dsimp only);(try simp only [d6,d9]);go_simp;go_at_call 237;(with_reducible refine (pE _ b7 A7 n7 c7 ((((q).num) * (((q').den:Int)))+(((q').num) * (((q).den:Int)))) ((((k))+((k')))+(((k'))+((k)))+1) ?_ b8 A8 n8 c8 ((((q).den:Int)) * (((q').den:Int))) (((k))+((k'))) ?_ (q+q') (k+k'+1) ?_ ?_ ?_ ?_).mono ?_);(exact h7.iz);(exact h8.iz);(exact Int.mul_ne_zero (eB _) (eB _));(exact (rY _ _).symm);(exact sB HS.out HS'.out);(omega);rintro e wr ⟨b9,A9,n9,c9,A'9,n'9,c'9,rfl,h9,hbr⟩;have hz:=hK.out _ _ ⟨b9,A9,n9,c9,A'9,n'9,c'9,rfl,h9⟩ hbr;simp only [d6,d9] at hz
   exact hz⟩
 ·exact .inr (.inr (.inr ⟨⟨w.heap.size+1+1,11,0,65,#[.bool false,.slice none 0 0,.slice none 0 0],CQ (q+q') (k+k'+1)⟩,by simp,rfl,by simp,by simp,(show KT 65=false by decide),fun _ _=>True.intro,fun xf wq hblk hd=>by
   obtain ⟨b9,A9,n9,c9,A'9,n'9,c'9,d10,h9⟩:VQ (q+q') (k+k'+1) (xf 10) wq:=hd ⟨10,.data⟩ (by simp) rfl;dsimp only at hblk;refine ⟨[.bool b9,.slice A9 n9 c9,.slice A'9 n'9 c'9],fun w' hk=>⟨b9,A9,n9,c9,A'9,n'9,c'9,rfl,h9.keep hk⟩,fun K hK=>?_⟩;have hc0:wq.cell? ⟨w.heap.size+1+1,0,none⟩=some (.bool false):=hblk.cell 0;have hc1:wq.cell? ⟨w.heap.size+1+1,1,none⟩=some (.slice none 0 0):=hblk.cell 1;have hc2:wq.cell? ⟨w.heap.size+1+1,2,none⟩=some (.slice none 0 0):=hblk.cell 2;have hf0:wq.frozen? ⟨w.heap.size+1+1,0,none⟩=false:=hblk.frozen 0;have hf1:wq.frozen? ⟨w.heap.size+1+1,1,none⟩=false:=hblk.frozen 1;have hf2:wq.frozen? ⟨w.heap.size+1+1,2,none⟩=false:=hblk.frozen 2;(try dsimp only);simp only [d10];go_simp;have hz:=hK.out undef;simp only [d10] at hz
   exact hz⟩))
 clear cx2a lx2a cx2b lx2b cx3a lx3a cx3b lx3b;intro y4 w4 kq4 hbl4 lw4 how hrr hfl hds;replace h:=h.keep kq4;replace h':=h'.keep kq4;replace h1:=h1.keep kq4;replace h'1:=h'1.keep kq4;replace h2:=h2.keep kq4;replace h'2:=h'2.keep kq4;obtain ⟨_,z4_0,ez,_⟩:=how _ (List.Mem.head _);obtain rfl:=ez (by simp);dsimp only at z4_0;obtain ⟨_,z4_1,ez,_⟩:=how _ (List.Mem.tail _ (List.Mem.head _));obtain rfl:=ez (by simp);dsimp only at z4_1;obtain ⟨_,z4_2,_,ez⟩:=how _ (List.Mem.tail _ (List.Mem.tail _ (List.Mem.head _)));obtain ⟨b9,A9,n9,c9,A'9,n'9,c'9,rfl,h9⟩:=ez (by simp);dsimp only at z4_2;obtain ⟨_,z4_3,ez,_⟩:=how _ (List.Mem.tail _ (List.Mem.tail _ (List.Mem.tail _ (List.Mem.head _))));obtain rfl:=ez (by simp);dsimp only at z4_3;obtain ⟨_,z4_4,ez,_⟩:=how _ (List.Mem.tail _ (List.Mem.tail _ (List.Mem.tail _ (List.Mem.tail _ (List.Mem.head _)))));obtain rfl:=ez (by simp);dsimp only at z4_4;obtain ⟨_,z4_5,ez,_⟩:=how _ (List.Mem.tail _ (List.Mem.tail _ (List.Mem.tail _ (List.Mem.tail _ (List.Mem.tail _ (List.Mem.head _))))));obtain rfl:=ez (by simp);dsimp only at z4_5;obtain ⟨_,z4_6,ez,_⟩:=how _ (List.Mem.tail _ (List.Mem.tail _ (List.Mem.tail _ (List.Mem.tail _ (List.Mem.tail _ (List.Mem.tail _ (List.Mem.head _)))))));obtain rfl:=ez (by simp);dsimp only at z4_6;(try dsimp only);clear hrr hfl how hds;clear x1a x1b x1c x2a x2b x3a x3b;have bw4:=bw3.trans hbl4;clear bw3;have cz4_2_0:w4.cell? ⟨w.heap.size+1+1,0,none⟩=some (.bool b9):=z4_2.cell 0;have cz4_2_1:w4.cell? ⟨w.heap.size+1+1,1,none⟩=some (.slice A9 n9 c9):=z4_2.cell 1;have cz4_2_2:w4.cell? ⟨w.heap.size+1+1,2,none⟩=some (.slice A'9 n'9 c'9):=z4_2.cell 2;have lz4_2:=om z4_2.lt;go_wp2_with fail;refine bodyPost_ret (v:=.agg #[.bool b9,.slice A9 n9 c9,.slice A'9 n'9 c'9]) (by simp [results,Tryz.results217,go_sem, *] <;> trivial) rfl ?_;exact ⟨b9,A9,n9,c9,A'9,n'9,c'9,rfl,h9.keep (Kp.refl w4),bw4⟩
theorem ui (w:World) (b A n c D m e q k) (h:QZ w b A n c D m e q k) (b' A' n' c' D' m' e' q' k') (h':QZ w b' A' n' c' D' m' e' q' k') (h0:0 < k) (hk:k≤40000000) (h0':0 < k') (hk':k'≤40000000) :
 Calls Tryz.prog 175 #[.agg #[.bool b,.slice A n c,.slice D m e],.agg #[.bool b',.slice A' n' c',.slice D' m' e']] w (qT w (q - q') (k+k'+1)):=by
 rw [show q - q'=q+-q' from Rat.sub_eq_add_neg q q'];go_in;go_wp2_with fail;have p1:=((((Kp.refl w).alloc (.cells #[.bool b,.slice A n c,.slice D m e] 65)).alloc (.cells #[.bool b',.slice A' n' c',.slice D' m' e'] 65)).alloc (.cells #[.bool false,.slice none 0 0,.slice none 0 0] 65));have bw1:=((((ae w).alloc (by first | omega | (simp <;> omega)) (.cells #[.bool b,.slice A n c,.slice D m e] 65)).alloc (by first | omega | (simp <;> omega)) (.cells #[.bool b',.slice A' n' c',.slice D' m' e'] 65)).alloc (by first | omega | (simp <;> omega)) (.cells #[.bool false,.slice none 0 0,.slice none 0 0] 65));have x1a:Blk (((w.alloc (.cells #[.bool b,.slice A n c,.slice D m e] 65)).alloc (.cells #[.bool b',.slice A' n' c',.slice D' m' e'] 65)).alloc (.cells #[.bool false,.slice none 0 0,.slice none 0 0] 65)) w.heap.size 65 #[.bool b,.slice A n c,.slice D m e]:=(((ai _ _ _ (by simp)).alloc (.cells #[.bool b',.slice A' n' c',.slice D' m' e'] 65)).alloc (.cells #[.bool false,.slice none 0 0,.slice none 0 0] 65));have x1b:Blk (((w.alloc (.cells #[.bool b,.slice A n c,.slice D m e] 65)).alloc (.cells #[.bool b',.slice A' n' c',.slice D' m' e'] 65)).alloc (.cells #[.bool false,.slice none 0 0,.slice none 0 0] 65)) (w.heap.size+1) 65 #[.bool b',.slice A' n' c',.slice D' m' e']:=((ai _ _ _ (by simp)).alloc (.cells #[.bool false,.slice none 0 0,.slice none 0 0] 65));have x1c:Blk (((w.alloc (.cells #[.bool b,.slice A n c,.slice D m e] 65)).alloc (.cells #[.bool b',.slice A' n' c',.slice D' m' e'] 65)).alloc (.cells #[.bool false,.slice none 0 0,.slice none 0 0] 65)) (w.heap.size+1+1) 65 #[.bool false,.slice none 0 0,.slice none 0 0]:=(ai _ _ _ (by simp));have lw1:w.heap.size+3≤(((w.alloc (.cells #[.bool b,.slice A n c,.slice D m e] 65)).alloc (.cells #[.bool b',.slice A' n' c',.slice D' m' e'] 65)).alloc (.cells #[.bool false,.slice none 0 0,.slice none 0 0] 65)).heap.size:=by simp
 generalize hE1:(((w.alloc (.cells #[.bool b,.slice A n c,.slice D m e] 65)).alloc (.cells #[.bool b',.slice A' n' c',.slice D' m' e'] 65)).alloc (.cells #[.bool false,.slice none 0 0,.slice none 0 0] 65))=w1 at p1 bw1 lw1 x1a x1b x1c ⊢;clear hE1;replace h:=h.keep p1;replace h':=h'.keep p1;have cx1a:=x1a.c3;have lx1a:=dj x1a.lt;have cx1b:=x1b.c3;have lx1b:=dY x1b.lt;obtain ⟨cx1ca,cx1cb,cx1cc⟩:=x1c.c3;obtain ⟨fx1ca,fx1cb,fx1cc⟩:=x1c.f3;have lx1c:=om x1c.lt;have nfx1_0_0:¬ w.heap.size=w.heap.size+1+1:=by omega
 have nex1_0_0:¬ w.heap.size=w.heap.size+2:=by omega
 have nfx1_1_0:¬ w.heap.size+1=w.heap.size+1+1:=by omega
 have nex1_1_0:¬ w.heap.size=w.heap.size+1:=by omega
 go_region_held3 (fun w'=>SeesX w1.heap.size (w.heap.size+1+1) w1 w') (first | with_reducible exact SeesX.of Qr (by assumption) | with_reducible exact SeesX.of Qr (ae _).drew | with_reducible exact (SeesX.set (SeesX.set (SeesX.set (SeesX.of Qr (by assumption))))) | with_reducible exact (SeesX.set (SeesX.set (SeesX.of Qr (by assumption)))) | with_reducible exact (SeesX.set (SeesX.of Qr (by assumption))) | exact SeesX.of Qr (aa (ae _) 1) | exact SeesX.of Qr (aa (by assumption) _))
  (first
   | (go_at_call 203;(with_reducible refine (ug _ b' A' n' c' D' m' e' (q') (k') ?_ ?_ ?_).mono ?_);(exact h');(omega);(omega);rintro e w2 ⟨b2,A2,n2,c2,A'2,n'2,c'2,rfl,h2,hb2⟩;replace hb2:=af (aa (ae _) 1) hb2;have q2:Below w1.heap.size w1 w2:=af (ae w1) hb2;replace h:=h.belw hb2;replace h':=h'.belw hb2)
   | (go_at_call 217;(with_reducible refine (uh _ b A n c D m e (q) (k) ?_ b2 A2 n2 c2 A'2 n'2 c'2 (-(q')) ((k')) ?_ ?_ ?_ ?_ ?_).mono ?_);(exact h);(exact h2.qz);(omega);(omega);(omega);(omega);rintro e w3 ⟨b3,A3,n3,c3,A'3,n'3,c'3,rfl,h3,hb3⟩;have q3:Below w1.heap.size w1 w3:=af q2 hb3;replace h:=h.belw hb3;replace h':=h'.belw hb3;replace h2:=h2.belw hb3;have x1c:=x1c.b q3;obtain ⟨cx1ca,cx1cb,cx1cc⟩:=x1c.c3;obtain ⟨fx1ca,fx1cb,fx1cc⟩:=x1c.f3))
 have bw3:=bw1.trans (q3.mono bw1.size);clear cx1a lx1a cx1b lx1b cx1ca fx1ca cx1cb fx1cb cx1cc fx1cc lx1c;replace x1a:=x1a.b q3;replace x1b:=x1b.b q3;have lw3:=q3.size;obtain ⟨cx1ca,cx1cb,cx1cc⟩:=x1c.c3;obtain ⟨fx1ca,fx1cb,fx1cc⟩:=x1c.f3;go_wp2_with fail;refine bodyPost_ret (v:=.agg #[.bool b3,.slice A3 n3 c3,.slice A'3 n'3 c'3]) (by simp [results,Tryz.results175,go_sem, *] <;> trivial) rfl ?_;exact ⟨b3,A3,n3,c3,A'3,n'3,c'3,rfl,h3.keep ((((Kp.refl w3).sb (w.heap.size+1+1) 0 x1c.box (by decide) (.bool b3)).sb (w.heap.size+1+1) 1 (x1c.box.set ⟨w.heap.size+1+1,0,none⟩ (.bool b3)) (by decide) (.slice A3 n3 c3)).sb (w.heap.size+1+1) 2 ((x1c.box.set ⟨w.heap.size+1+1,0,none⟩ (.bool b3)).set ⟨w.heap.size+1+1,1,none⟩ (.slice A3 n3 c3)) (by decide) (.slice A'3 n'3 c'3)),(((bw3.sc (w.heap.size+1+1) 0 (by omega) (.bool b3)).sc (w.heap.size+1+1) 1 (by omega) (.slice A3 n3 c3)).sc (w.heap.size+1+1) 2 (by omega) (.slice A'3 n'3 c'3))⟩
theorem uj (w:World) (b A n c D m e q k) (h:QZ w b A n c D m e q k) (b' A' n' c' D' m' e' q' k') (h':QZ w b' A' n' c' D' m' e' q' k') (h0:0 < k) (hk:k≤10000000) (h0':0 < k') (hk':k'≤10000000) :
 Calls Tryz.prog 136 #[.agg #[.bool b,.slice A n c,.slice D m e],.agg #[.bool b',.slice A' n' c',.slice D' m' e']] w (aw w (.int .i64 (q - q').num.sign)):=by
 go_in;go_wp2_with fail;(with_reducible refine (ui _ b A n c D m e (q) (k) ?_ b' A' n' c' D' m' e' (q') (k') ?_ ?_ ?_ ?_ ?_).mono ?_);(exact (h.belw (((Below.refl _ _).alloc Qr _).alloc (by simp) _)));(exact (h'.belw (((Below.refl _ _).alloc Qr _).alloc (by simp) _)));(omega);(omega);(omega);(omega);rintro e w1 ⟨b1,A1,n1,c1,A'1,n'1,c'1,rfl,h1,hb1⟩;have q1:=hb1.q2;replace h:=h.belw q1;replace h':=h'.belw q1;have x1a:Blk w1 w.heap.size 65 #[.bool b,.slice A n c,.slice D m e]:=((ai _ _ _ (by simp)).alloc _).below hb1 (by simp <;> omega);have x1b:=(ai _ _ _ (g:=w.heap.size+1) (by simp)).below hb1 (by simp);have bw1:=(ae w).trans (q1.mono (ae w).size);have lw1:=hb1.l2;clear q1;go_wp2_with fail;(with_reducible refine (sZ _ b1 A1 n1 c1 A'1 n'1 c'1 ((q) - (q')) ((k)+(k')+1) ?_ ?_ ?_).mono ?_);(exact h1.qz);(omega);(omega);rintro e w2 ⟨rfl,q2⟩;replace h:=h.belw q2;replace h':=h'.belw q2;replace h1:=h1.belw q2;replace x1a:=x1a.b q2;replace x1b:=x1b.b q2;have bw2:=bw1.trans (q2.mono bw1.size);have lw2:=q2.size;clear q2 bw1;go_wp2;go_ret;exact df rfl bw2
theorem Four.b {w w':World}{g1 g2 g3 g4 t:Nat}{c1 c2 c3 c4:Array Value}(X:Blk w g1 t c1∧Blk w g2 t c2∧Blk w g3 t c3∧Blk w g4 t c4) (hb:Below w.heap.size w w'):Blk w' g1 t c1∧Blk w' g2 t c2∧Blk w' g3 t c3∧Blk w' g4 t c4:=⟨X.1.below hb X.1.lt,X.2.1.below hb X.2.1.lt,X.2.2.1.below hb X.2.2.1.lt,X.2.2.2.below hb X.2.2.2.lt⟩
theorem FourV.b {w w':World}{b1 b2 b3 b4:Bool}{A1 A2 A3 A4:Option Addr}{n1 n2 n3 n4 c1 c2 c3 c4 k1 k2 k3 k4:Nat}{z1 z2 z3 z4:Int}(H:IV w b1 A1 n1 c1 z1 k1∧IV w b2 A2 n2 c2 z2 k2∧IV w b3 A3 n3 c3 z3 k3∧IV w b4 A4 n4 c4 z4 k4) (hb:Below w.heap.size w w'):IV w' b1 A1 n1 c1 z1 k1∧IV w' b2 A2 n2 c2 z2 k2∧IV w' b3 A3 n3 c3 z3 k3∧IV w' b4 A4 n4 c4 z4 k4:=⟨H.1.belw hb,H.2.1.belw hb,H.2.2.1.belw hb,H.2.2.2.belw hb⟩
end Go.Proofs.YtfilnhompchciaaGreatDoor
namespace Bn
open Go.Lib
def bC (q:Rat):List UInt8:=if q.den=1 then itoa q.num else itoa q.num ++ 47 :: itoa (q.den:Int)
theorem pF {c:UInt8}:∀ {a b:List UInt8},c ∉ a→index (a ++ c :: b) [c]=(a.length:Int):=by
 intro a
 induction a with
 | nil=>intro b _;rw [List.nil_append,index,if_pos (by simp [List.isPrefixOf])];rfl
 | cons x r ih =>
  intro b h;simp at h;have hp:List.isPrefixOf [c] (x :: (r ++ c :: b))=false:=by simp [List.isPrefixOf];exact h.1
  rw [List.cons_append,index,hp,ih (b:=b) h.2];have:((r.length:Int) == -1)=false:=by rw [beq_eq_false_iff_ne];omega
  simp [this]
theorem lM {c:UInt8}{a b:List UInt8}(h:c ∉ a):cut (a ++ c :: b) [c]=(a,b,true):=by
 unfold cut;rw [pF h,if_pos (by omega)];simp
end Bn

/- Walks: what the integer laws lean on: short, Same; roots and texts as values. -/
namespace Go.Proofs.YtfilnhompchciaaGreatDoor
open Go Go.RowKit Bn
attribute [local go_sem ↓] Go.wp_at_zero Go.wp_at_succ
def Ws (w:World) (g N:Nat) (ns:Nat→Nat):Prop:=g < w.heap.size∧∀ i,i < N→∃ b A c,w.cell? ⟨g,i * 2,none⟩=some (.bool b)∧w.cell? ⟨g,i * 2+1,none⟩=some (.slice A (ns i) c)
theorem Ws.belw {w w':World}{g N:Nat}{ns:Nat→Nat}(h:Ws w g N ns) (hb:Below w.heap.size w w'):Ws w' g N ns:=by
 obtain ⟨hg,h⟩:=h;have hc:=(bq hb).1;refine ⟨Nat.lt_of_lt_of_le hg hb.size,fun i hi=>?_⟩;obtain ⟨b,A,c,h1,h2⟩:=h i hi;exact ⟨b,A,c,(hc _ _ hg).trans h1,(hc _ _ hg).trans h2⟩
theorem IZ.short {w:World}{b:Bool}{A:Option Addr}{n c k:Nat}{z:Int}(h:IZ w b A n c z k) (hs:n≤30):IZ w b A n c z 30:=by
 obtain ⟨l,h1,h2,_⟩:=h;exact ⟨l,h1,h2,hs⟩
theorem rD (a b:Rat):co (a.num * b.den) (b.num * a.den)=fR a b:=by
 unfold co fR;have h:=tG a b;by_cases h1:a < b
 ·rw [if_pos h1,if_pos (h.1.2 h1)]
 rw [if_neg h1,if_neg (fun x=>h1 (h.1.1 x))];by_cases h2:a=b
 ·rw [if_pos h2,if_pos (h.2.2 h2)]
 rw [if_neg h2,if_neg (fun x=>h2 (h.2.1 x))]
theorem tj (q q':Rat):(q - q').num.sign=fR q q':=by
 have h1:=sA (q - q');rw [h1];unfold fR;have h2:(q - q' < 0) ↔ q < q':=by constructor <;> intro h <;> grind
 have h3:(q - q'=0) ↔ q=q':=by constructor <;> intro h <;> grind
 by_cases h4:q < q'
 ·rw [if_pos h4,if_pos (h2.2 h4)]
 rw [if_neg h4,if_neg (fun h=>h4 (h2.1 h))];by_cases h5:q=q'
 ·rw [if_pos h5,if_pos (h3.2 h5)]
 rw [if_neg h5,if_neg (fun h=>h5 (h3.1 h))]
theorem gf (w:World) (b A n c D m e q k) (h:QZ w b A n c D m e q k) (b' A' n' c' D' m' e' q' k') (h':QZ w b' A' n' c' D' m' e' q' k') (s:Int) (hs:fR q q'=s) (h0:0 < k) (hk:k≤40000000) (h0':0 < k') (hk':k'≤40000000):Calls Tryz.prog 155 #[.agg #[.bool b,.slice A n c,.slice D m e],.agg #[.bool b',.slice A' n' c',.slice D' m' e']] w (aw w (.int .i64 s)):=by
 subst hs;rw [← rD];exact t8 w b A n c D m e q k h b' A' n' c' D' m' e' q' k' h' h0 hk h0' hk'
theorem mt (w:World) (b A n c D m e q k) (h:QZ w b A n c D m e q k) (b' A' n' c' D' m' e' q' k') (h':QZ w b' A' n' c' D' m' e' q' k') (s:Int) (hs:fR q q'=s) (h0:0 < k) (hk:k≤10000000) (h0':0 < k') (hk':k'≤10000000):Calls Tryz.prog 136 #[.agg #[.bool b,.slice A n c,.slice D m e],.agg #[.bool b',.slice A' n' c',.slice D' m' e']] w (aw w (.int .i64 s)):=by
 subst hs;rw [← tj];exact uj w b A n c D m e q k h b' A' n' c' D' m' e' q' k' h' h0 hk h0' hk'

theorem lN (x:Int) (w:World):(Instr.typeAssert (.iface 49 (.int .i64 x)) 26 49 true).run Tryz.prog w=.ok (.tuple #[.int .i64 x,.bool true]) w:=by
 simp [Instr.typeAssert,run_underlying Tryz.underlying49]
theorem nB (w:World) (x:Int):Calls Tryz.prog 13 #[.iface 49 (.int .i64 x)] w (aw w (.int .i64 x)):=by
 go_in;have hr:=lN x;go_wp2;go_ret;exact ⟨rfl,ae w⟩
theorem gQ (w:World) (b A n c z k) (h:IZ w b A n c z k) (T:List UInt8) (hk:k≤1000000000) (ht:Tab w) (hT:Lib.itoa z=T):Calls Tryz.prog 182 #[.agg #[.bool b,.slice A n c]] w (aw w (ag T)):=by
 subst hT;obtain ⟨l,h1,rfl,h3⟩:=h;exact tc w b A n c l h1 (by omega) ht
theorem mu (w:World) (b A n c z k) (h:IZ w b A n c z k) (b' A' n' c' z' k') (h':IZ w b' A' n' c' z' k') (v:Int) (hv:co z z'=v) (hk:k+k'≤1000000000):Calls Tryz.prog 152 #[.agg #[.bool b,.slice A n c],.agg #[.bool b',.slice A' n' c']] w (aw w (.int .i64 v)):=by
 subst hv;exact oX w b A n c z k h b' A' n' c' z' k' h' hk

theorem uN (w:World) (x:Int):Calls Tryz.prog 20 #[.iface 49 (.int .i64 x),.int .i64 x] w (aw w (.bool true)):=by
 go_in;go_wp2_with (go_at_call 13;(with_reducible refine (nB _ x).mono ?_);rintro e w1 ⟨rfl,hb1⟩);go_ret;exact ⟨rfl,hb1⟩
end Go.Proofs.YtfilnhompchciaaGreatDoor
namespace Bn
open Go.Lib
def sm (F B:List UInt8):Bool:=okZ (eZ F) && decide (0≤jG (eZ F)) && decide (B≠[]) && B.all bA
def uk (F B:List UInt8):Int:=jG (eZ F) * 10 ^ B.length+aP B
def uO (F B:List UInt8):Rat:=Rat.divInt (if pl F then -(uk F B) else uk F B) (10 ^ B.length)
def sn (F B:List UInt8):Bool:=okZ F && okZ B && decide (0 < jG B) && decide (jG B≠1) && decide (Nat.gcd (jG F).natAbs (jG B).natAbs=1)
inductive ux (s:List UInt8) (x:Int) (q:Rat):Prop
  | big (h:65536 < s.length) (hx:x=4) (hq:q=0)
  | dot (F B:List UInt8) (hl:s.length≤65536) (hs:s=F ++ 46 :: B) (hF:46 ∉ F) (h64:s.length≤64) (h:sm F B=true) (hx:x=0) (hq:q=uO F B)
  | dotNo (F B:List UInt8) (hl:s.length≤65536) (hs:s=F ++ 46 :: B) (hF:46 ∉ F) (h:64 < s.length∨sm F B=false) (hx:x=2) (hq:q=0)
  | quo (F B:List UInt8) (hl:s.length≤65536) (hd:46 ∉ s) (hs:s=F ++ 47 :: B) (hF:47 ∉ F) (h:sn F B=true) (hx:x=0) (hq:q=Rat.divInt (jG F) (jG B))
  | quoNo (F B:List UInt8) (hl:s.length≤65536) (hd:46 ∉ s) (hs:s=F ++ 47 :: B) (hF:47 ∉ F) (h:sn F B=false) (hx:x=2) (hq:q=0)
  | whole (hl:s.length≤65536) (hd:46 ∉ s) (hs:47 ∉ s) (h:okZ s=true) (hx:x=0) (hq:q=((jG s:Int):Rat))
  | wholeNo (hl:s.length≤65536) (hd:46 ∉ s) (hs:47 ∉ s) (h:okZ s=false) (hx:x=2) (hq:q=0)
end Bn

/- Walks: linkworkref01.Parse. -/
namespace Go.Proofs.YtfilnhompchciaaGreatDoor
open Go Go.RowKit Bn
attribute [local go_sem ↓] Go.wp_at_zero Go.wp_at_succ

def tl (w:World) (T:List UInt8) (m:Bool) (k:Nat) (e:Ending) (w':World):Prop :=
  if T.all bA=true then iY w (.int .i64 0) (if m then -(aP T:Int) else aP T) k e w' else iY w (.int .i64 2) 0 0 e w'
theorem tl.good {w w':World}{T:List UInt8}{m:Bool}{k:Nat}{e:Ending}(h:T.all bA=true) (hr:iY w (.int .i64 0) (if m then -(aP T:Int) else aP T) k e w'):tl w T m k e w':=by
 unfold tl;rw [if_pos h];exact hr
def cT (x:Int):Value:=if x=0 then .nilIface else .iface 49 (.int .i64 x)
theorem iY.mono {w w':World}{v:Value}{z:Int}{k j:Nat}{e:Ending}(h:iY w v z k e w') (hk:k≤j):iY w v z j e w':=by
 obtain ⟨b,A,n,c,h1,h2,h3⟩:=h;exact ⟨b,A,n,c,h1,h2.mono hk,h3⟩
def uP (t:Tkn):List Value:=[.int .i64 (t.kind:Nat),ag t.text,.int .i64 (t.line:Nat),.int .i64 (t.col:Nat)]
def fP (l:List Tkn):List Value:=l.flatMap uP
def TkS (w:World) (A:Option Addr) (n c:Nat) (l:List Tkn):Prop:=l.length=n∧((n=0∧A=none∧c=0)∨∃ g,A=some ⟨g,0,none⟩∧n≤c∧∀ i v,(fP l)[i]?=some v→w.cell? ⟨g,i,none⟩=some v)
theorem TkS.belw {w w':World}{A:Option Addr}{n c:Nat}{l:List Tkn}(h:TkS w A n c l) (hb:Below w.heap.size w w'):TkS w' A n c l:=by
 refine ⟨h.1,?_⟩;rcases h.2 with h | ⟨g,e,hc,h⟩
 ·exact .inl h
 exact .inr ⟨g,e,hc,fun i v hv=>(hb.cell (p:=⟨g,i,none⟩) (World.block_lt_of_cell? w _ (h i v hv))).trans (h i v hv)⟩
theorem TkS.nil (w:World):TkS w none 0 0 []:=⟨rfl,.inl ⟨rfl,rfl,rfl⟩⟩
theorem TkS.of_own {w:World}{base:Nat}{e:TypeId}{v:Value}{l:List Tkn}(h:w.ownsRow base e 4 v l.length (fP l)):∃ A c,v=.slice A l.length c∧TkS w A l.length c l:=by
 rcases h.2 with ⟨rfl,h0⟩ | ⟨g,cap,cur,rfl,hb,hg,hn,hc,hs,ht⟩
 ·exact ⟨none,0,by rw [h0],rfl,.inl ⟨h0,rfl,rfl⟩⟩
 refine ⟨_,_,rfl,rfl,.inr ⟨g,rfl,hn,fun i v hv=>?_⟩⟩;rw [cell_of_row w g i cur e (0,0) hg];rw [← ht,List.getElem?_take] at hv;split at hv
 ·simpa using hv
 cases hv
def pre (d:List Tkn):jJ→jJ
  | .ok l=>.ok (d ++ l)
  | .err x=>.err x
inductive ul (s:List UInt8) (x:Int) (l:List Tkn):Prop
  | big (h:65536 < s.length) (hx:x=4) (hl:l=[])
  | ok (h:s.length≤65536) (ht:jL s=.ok l) (hx:x=0)
  | err (n:Nat) (h:s.length≤65536) (ht:jL s=.err n) (hx:x=(n:Int)) (hl:l=[])
theorem pG {l:List Tkn}{i:Nat}(h:i < l.length):(fP l)[i * 4]?=some (.int .i64 (l[i].kind:Nat))∧(fP l)[i * 4+1]?=some (ag l[i].text)∧(fP l)[i * 4+2]?=some (.int .i64 (l[i].line:Nat))∧(fP l)[i * 4+3]?=some (.int .i64 (l[i].col:Nat)):=by
 induction l generalizing i with
 | nil=>simp at h
 | cons t l ih =>
  have e:fP (t :: l)=[.int .i64 (t.kind:Nat),ag t.text,.int .i64 (t.line:Nat),.int .i64 (t.col:Nat)] ++ fP l:=rfl;rw [e]
  cases i with
  | zero=>simp
  | succ i =>
   have h1:=ih (i:=i) (by simpa using h);have s:(i+1) * 4=i * 4+4:=by omega
   rw [s];simp only [List.getElem_cons_succ];refine ⟨?_,?_,?_,?_⟩
   ·rw [List.getElem?_append_right (by simp)];exact h1.1
   ·rw [List.getElem?_append_right (by simp)];exact h1.2.1
   ·rw [List.getElem?_append_right (by simp)];exact h1.2.2.1
   rw [List.getElem?_append_right (by simp)];exact h1.2.2.2
theorem TkS.cells {w:World}{A:Option Addr}{n c:Nat}{l:List Tkn}(h:TkS w A n c l) {i:Nat}(hi:i < n):∃ g t,A=some ⟨g,0,none⟩∧n≤c∧l[i]?=some t∧w.cell? ⟨g,i * 4,none⟩=some (.int .i64 (t.kind:Nat))∧w.cell? ⟨g,i * 4+1,none⟩=some (ag t.text)∧w.cell? ⟨g,i * 4+2,none⟩=some (.int .i64 (t.line:Nat))∧w.cell? ⟨g,i * 4+3,none⟩=some (.int .i64 (t.col:Nat)):=by
 have hl:=h.1;rcases h.2 with ⟨h0,_⟩ | ⟨g,e,hc,h2⟩
 ·omega
 have h3:=pG (l:=l) (i:=i) (by omega);exact ⟨g,_,e,hc,List.getElem?_eq_getElem (by omega),h2 _ _ h3.1,h2 _ _ h3.2.1,h2 _ _ h3.2.2.1,h2 _ _ h3.2.2.2⟩
def aQ (s:List UInt8):Bool:=decide (0 < bI s) && decide (bI s=s.length) && decide (bI s≤24)
def er:List (List UInt8)→List UInt8
  | []=>[]
  | [x]=>x
  | x :: y :: r=>x ++ 32 :: er (y :: r)
theorem kN (xs:List (List UInt8)):Lib.join xs [32]=er xs:=by
 induction xs with
 | nil=>rfl
 | cons x r ih =>
  cases r with
  | nil=>rw [Lib.join_one];rfl
  | cons y r =>
   rw [er,← ih];rw [Lib.join_cons,Lib.join_cons];simp [Lib.joinTail]
theorem bD (a b:List UInt8):(⟨a.toArray⟩:ByteArray) ++ (⟨b.toArray⟩:ByteArray)=⟨(a ++ b).toArray⟩:=by
 apply ByteArray.ext;simp
theorem gR (w:World) (s:List UInt8) (hs:s.length < 4611686018427387904) (v:Bool) (hv:aQ s=v):Calls Tryz.prog 75 #[ag s] w (aw w (.bool v)):=by
 have hszs:=aq s;obtain ⟨n,hwn⟩:∃ n,bI s=n:=⟨_,rfl⟩;have hnl:n≤s.length:=by rw [← hwn];exact gH s
 unfold aQ at hv;rw [hwn] at hv;rcases (show n=0∨(0 < n∧n≠s.length)∨(0 < n∧n=s.length∧24 < n)∨(0 < n∧n=s.length∧n≤24) by omega) with h1 | ⟨h1,h2⟩ | ⟨h1,h2,h3⟩ | ⟨h1,h2,h3⟩
 ·have g0:((0:Int) < (n:Int))=False:=eq_false (by omega)
  obtain rfl:v=false:=by rw [← hv];simp;omega
  have g8:(n == 0)=true:=by simp;omega
  clear hv;go_in;go_wp2_with fail;(with_reducible refine (jS _ (s) hs n hwn).mono ?_);rintro e w1 ⟨rfl,q1⟩;have bw1:=(ae w).trans (q1.mono (ae w).size);have lw1:=q1.size;clear q1;go_wp2;go_ret;exact bp rfl bw1
 ·have g0:((0:Int) < (n:Int))=True:=eq_true (by omega)
  have g1:((n:Int) == (s.length:Int))=false:=by simp;omega
  obtain rfl:v=false:=by rw [← hv];simp;omega
  clear hv h2;go_in;go_wp2_with fail;(with_reducible refine (jS _ (s) hs n hwn).mono ?_);rintro e w1 ⟨rfl,q1⟩;have bw1:=(ae w).trans (q1.mono (ae w).size);have lw1:=q1.size;clear q1;go_wp2;go_ret;exact bp rfl bw1
 ·have g0:((0:Int) < (n:Int))=True:=eq_true (by omega)
  have g1:((n:Int) == (s.length:Int))=true:=by simp;omega
  have g2:((n:Int)≤24)=False:=eq_false (by omega);obtain rfl:v=false:=by rw [← hv];simp;omega
  clear hv h2;go_in;go_wp2_with fail;(with_reducible refine (jS _ (s) hs n hwn).mono ?_);rintro e w1 ⟨rfl,q1⟩;have bw1:=(ae w).trans (q1.mono (ae w).size);have lw1:=q1.size;clear q1;go_wp2;go_ret;exact bp rfl bw1
 have g0:((0:Int) < (n:Int))=True:=eq_true (by omega);have g1:((n:Int) == (s.length:Int))=true:=by simp;omega
 have g2:((n:Int)≤24)=True:=eq_true (by omega);obtain rfl:v=true:=by rw [← hv,decide_eq_true (show 0 < n by omega),decide_eq_true (show n=s.length by omega),decide_eq_true (show n≤24 by omega)];rfl
 clear hv h2;go_in;go_wp2_with fail;(with_reducible refine (jS _ (s) hs n hwn).mono ?_);rintro e w1 ⟨rfl,q1⟩;have bw1:=(ae w).trans (q1.mono (ae w).size);have lw1:=q1.size;clear q1;go_wp2;go_ret;exact bp rfl bw1
theorem gS (w:World) (s:List UInt8) (hs:s.length < 4611686018427387904) (v:Bool) (hv:aQ s=v):Calls Tryz.prog 52 #[ag s] w (aw w (.bool v)):=by
 have hszs:=aq s;obtain ⟨n,hwn⟩:∃ n,bI s=n:=⟨_,rfl⟩;have hnl:n≤s.length:=by rw [← hwn];exact gH s
 unfold aQ at hv;rw [hwn] at hv;rcases (show s.length=0∨24 < s.length∨(0 < s.length∧s.length≤24∧n≠s.length)∨(0 < s.length∧s.length≤24∧n=s.length) by omega) with h1 | h1 | ⟨h1,h2,h3⟩ | ⟨h1,h2,h3⟩
 ·have g0:((0:Int) < (s.length:Int))=False:=eq_false (by omega)
  obtain rfl:v=false:=by rw [← hv];simp;omega
  clear hv;go_in;go_wp2;go_ret;exact bp (by first | rfl | (simp;omega)) (ae w)
 ·have g0:((0:Int) < (s.length:Int))=True:=eq_true (by omega)
  have g1:((s.length:Int)≤24)=False:=eq_false (by omega);obtain rfl:v=false:=by rw [← hv];simp;omega
  clear hv;go_in;go_wp2;go_ret;exact bp (by first | rfl | (simp;omega)) (ae w)
 ·have g0:((0:Int) < (s.length:Int))=True:=eq_true (by omega)
  have g1:((s.length:Int)≤24)=True:=eq_true (by omega);have g2:((n:Int) == (s.length:Int))=false:=by simp;omega
  obtain rfl:v=false:=by rw [← hv];simp;omega
  clear hv;go_in;go_wp2_with fail;(with_reducible refine (fO _ (s) (0) 0 rfl (Nat.zero_le _) hs (n:Nat) (by rw [List.drop_zero,hwn,Nat.zero_add])).mono ?_);rintro e w1 ⟨rfl,q1⟩;have bw1:=(ae w).trans (q1.mono (ae w).size);have lw1:=q1.size;clear q1;go_wp2;go_ret;exact bp (by first | rfl | (simp;omega)) bw1
 have g0:((0:Int) < (s.length:Int))=True:=eq_true (by omega);have g1:((s.length:Int)≤24)=True:=eq_true (by omega);have g2:((n:Int) == (s.length:Int))=true:=by simp;omega
 obtain rfl:v=true:=by rw [← hv,decide_eq_true (show 0 < n by omega),decide_eq_true (show n=s.length by omega),decide_eq_true (show n≤24 by omega)];rfl
 clear hv;go_in;go_wp2_with fail;(with_reducible refine (fO _ (s) (0) 0 rfl (Nat.zero_le _) hs (n:Nat) (by rw [List.drop_zero,hwn,Nat.zero_add])).mono ?_);rintro e w1 ⟨rfl,q1⟩;have bw1:=(ae w).trans (q1.mono (ae w).size);have lw1:=q1.size;clear q1;go_wp2;go_ret;exact bp (by first | rfl | (simp;omega)) bw1
structure aR where
  name:List UInt8
  x:RD
  y:RD
structure ay where
  name:List UInt8
  pts:List aR
structure bc where
  name:List UInt8
  kind:Int
  a:Int
  point:Int
  b:Int
  on:Int
  to_:Int
structure bj where
  name:List UInt8
  body:Int
structure au where
  name:List UInt8
  bodies:List ay
  joints:List bc
  drivers:List bj
def aN {α:Type}(f:List α→α→Int):List α→List α→Int
  | _,[]=>0
  | prev,a :: r=>if f prev a=0 then aN f (prev ++ [a]) r else f prev a
theorem bP {α:Type}{f:List α→α→Int}{l:List α}{i:Nat}{x:Int}(h:aN f (l.take i) (l.drop i)=x) {a:α}(ha:l[i]?=some a) :
 (f (l.take i) a=0∧aN f (l.take (i+1)) (l.drop (i+1))=x)∨(f (l.take i) a≠0∧f (l.take i) a=x):=by
 obtain ⟨hl,he⟩:=List.getElem?_eq_some_iff.1 ha;have hd:l.drop i=a :: l.drop (i+1):=by rw [List.drop_eq_getElem_cons hl,he]
 have ht:l.take (i+1)=l.take i ++ [a]:=by rw [List.take_add_one,ha];rfl
 rw [hd] at h;unfold aN at h;rw [ht];split at h
 ·left;rename_i h0;exact ⟨h0,h⟩
 right;rename_i h0;exact ⟨h0,h⟩
theorem cw {α:Type}{f:List α→α→Int}{l:List α}{i:Nat}{x:Int}(h:aN f (l.take i) (l.drop i)=x) (hi:l.length≤i):x=0:=by
 rw [List.drop_eq_nil_of_le hi] at h;exact h.symm
theorem bG {α:Type}{f:List α→α→Int}{l:List α}{x:Int}(h:aN f [] l=x):aN f (l.take 0) (l.drop 0)=x:=h
def twN (l:List (List UInt8)) (n:List UInt8):Bool:=l.any fun m=>m == n
theorem cA {α:Type}{f:α→List UInt8}{l:List α}{j:Nat}{a:α}{nm:List UInt8}(ha:l[j]?=some a) (h:twN ((l.take j).map f) nm=false) (hne:f a≠nm):twN ((l.take (j+1)).map f) nm=false:=by
 have ht:l.take (j+1)=l.take j ++ [a]:=by rw [List.take_add_one,ha];rfl
 unfold twN at h ⊢;rw [ht,List.map_append,List.any_append,h];simpa using hne
theorem cX {α:Type}{f:α→List UInt8}{l:List α}{j i:Nat}{a:α}{nm:List UInt8}(ha:l[j]?=some a) (hji:j < i) (he:f a=nm):twN ((l.take i).map f) nm=true:=by
 unfold twN;rw [List.any_eq_true];refine ⟨f a,?_,by simpa using he⟩;have h1:(l.take i)[j]?=some a:=by rw [List.getElem?_take,if_pos hji];exact ha
 exact List.mem_map_of_mem (List.mem_of_getElem? h1)
def inI (i:Int) (n:Nat):Bool:=decide (0≤i) && decide (i < (n:Int))
def aM (prev:List aR) (m:aR):Int :=
  if aQ m.name=false then 5 else if twN (prev.map aR.name) m.name=true then 6 else if m.x.ok=false then 3 else if m.y.ok=false then 3 else 0
def aD (prev:List ay) (b:ay):Int :=
  if aQ b.name=false then 5 else if twN (prev.map ay.name) b.name=true then 6 else if 8 < b.pts.length then 4 else aN aM [] b.pts
def bJ (L:au) (i:Int):List aR:=match L.bodies[i.toNat]? with | some b=>b.pts | none=>[]
def cH (l:List aR) (i j:Int):Bool:=match l[i.toNat]?,l[j.toNat]? with | some p,some q=>decide (p.x.q=q.x.q) && decide (p.y.q=q.y.q) | _,_=>false
def aJ (L:au) (j:bc):Int :=
  if j.kind≠0∧j.kind≠1 then 7 else if inI j.a L.bodies.length=false then 9 else if inI j.b L.bodies.length=false then 9 else if j.a=j.b then 13
  else if inI j.point (bJ L j.a).length=false then 9 else if inI j.on (bJ L j.b).length=false then 9
  else if j.kind=0 then (if j.to_=0 then 0 else 2) else if inI j.to_ (bJ L j.b).length=false then 9 else if cH (bJ L j.b) j.on j.to_=true then 8 else 0
def aA (L:au) (prev:List bc) (j:bc):Int :=
  if aQ j.name=false then 5 else if twN (prev.map bc.name) j.name=true then 6 else aJ L j
def ap (n:Nat) (prev:List bj) (d:bj):Int :=
  if aQ d.name=false then 5 else if twN (prev.map bj.name) d.name=true then 6 else if inI d.body n=false then 9 else if d.body=0 then 7
  else if (prev.any fun p=>p.body == d.body)=true then 6 else 0
def cB (L:au):Int :=
  if aQ L.name=false then 5 else if L.bodies.length=0 then 10 else if 8 < L.bodies.length then 4 else if aN aD [] L.bodies≠0 then aN aD [] L.bodies
  else if 16 < L.joints.length then 4 else if aN (aA L) [] L.joints≠0 then aN (aA L) [] L.joints
  else if 2 < L.drivers.length then 4 else aN (ap L.bodies.length) [] L.drivers
theorem fj {z:Int}{k K:Nat}(h:z.natAbs < 4294967296 ^ k) (hk:k≤K) (h0:0 < K):(Lib.itoa z).length≤10 * K+1:=by
 have h2:Lib.nDigits z.natAbs≤10 * K:=dH hk h0 h;rw [gB,List.length_append,Lib.decDigits_length];split <;> simp <;> omega
theorem nC (X Y:List UInt8):((⟨X.toArray⟩:ByteArray) ++ ⟨#[47]⟩) ++ ⟨Y.toArray⟩=⟨(X ++ 47 :: Y).toArray⟩:=by
 rw [show (⟨#[47]⟩:ByteArray)=⟨[47].toArray⟩ from rfl,iZ,iZ,List.append_assoc];rfl
theorem jf {q:Rat}(h:q.den=1):bC q=Lib.itoa q.num:=if_pos h
theorem jg {q:Rat}(h:q.den≠1):bC q=Lib.itoa q.num ++ 47 :: Lib.itoa (q.den:Int):=if_neg h
theorem rE {x y:Int}(h:x≠y):co x y≠0:=by
 unfold co;(repeat' split) <;> omega
theorem pH:co 1 1=0:=by decide
theorem pI (w:World) (b A n c D m e q k) (h:QZ w b A n c D m e q k) (h0:0 < k) (hk:k≤40000000) (htab:Tab w) (hd:q.den=1) :
 Calls Tryz.prog 141 #[.agg #[.bool b,.slice A n c,.slice D m e]] w (aw w (ag (bC q))):=by
 rw [jf hd];have HC:=Qh (show co (q.den:Int) 1=0 by rw [hd];exact pH);clear hd;go_in;go_wp2_with fail;(with_reducible refine (fX _ b A n c D m e (q) (k) ?_ ?_ ?_).mono ?_);(exact (h.belw ((Below.refl _ _).alloc Qr _)));(omega);(omega);rintro e w1 ⟨b1,A1,n1,c1,b'1,A'1,n'1,c'1,rfl,h1,h'1,hb1⟩;have q1:=hb1.q1;replace h:=h.belw q1;have x1a:Blk w1 w.heap.size 65 #[.bool b,.slice A n c,.slice D m e]:=(ai _ _ _ (by simp)).below hb1 (by simp);have bw1:=(ae w).trans (q1.mono (ae w).size);have lw1:=hb1.l1;clear q1;go_wp2_with fail;have p2:=(((Kp.refl w1).alloc (.cells #[.bool b1,.slice A1 n1 c1] 194)).alloc (.cells #[.bool b'1,.slice A'1 n'1 c'1] 194));have bw2:=((bw1.alloc (by first | omega | (simp <;> omega)) (.cells #[.bool b1,.slice A1 n1 c1] 194)).alloc (by first | omega | (simp <;> omega)) (.cells #[.bool b'1,.slice A'1 n'1 c'1] 194));have x2a:Blk ((w1.alloc (.cells #[.bool b1,.slice A1 n1 c1] 194)).alloc (.cells #[.bool b'1,.slice A'1 n'1 c'1] 194)) w1.heap.size 194 #[.bool b1,.slice A1 n1 c1]:=((ai _ _ _ (by simp)).alloc (.cells #[.bool b'1,.slice A'1 n'1 c'1] 194));have x2b:Blk ((w1.alloc (.cells #[.bool b1,.slice A1 n1 c1] 194)).alloc (.cells #[.bool b'1,.slice A'1 n'1 c'1] 194)) (w1.heap.size+1) 194 #[.bool b'1,.slice A'1 n'1 c'1]:=(ai _ _ _ (by simp));replace x1a:=((x1a.alloc (.cells #[.bool b1,.slice A1 n1 c1] 194)).alloc (.cells #[.bool b'1,.slice A'1 n'1 c'1] 194));have lw2:w1.heap.size+2≤((w1.alloc (.cells #[.bool b1,.slice A1 n1 c1] 194)).alloc (.cells #[.bool b'1,.slice A'1 n'1 c'1] 194)).heap.size:=by simp
 generalize hE2:((w1.alloc (.cells #[.bool b1,.slice A1 n1 c1] 194)).alloc (.cells #[.bool b'1,.slice A'1 n'1 c'1] 194))=w2 at p2 bw2 lw2 x2a x2b x1a ⊢;clear hE2;replace h:=h.keep p2;replace h1:=h1.keep p2;replace h'1:=h'1.keep p2;clear bw1;have lx1a:=dj x1a.lt;obtain ⟨lx2aa,lx2ab,lx2ac,lx2ad⟩:=dj x2a.lt;have cx2b:=x2b.c2;have lx2b:=dY x2b.lt
 go_region_held3 (fun w'=>Sees w2.heap.size w2 w') (first | with_reducible exact Sees.of Qr (by assumption) | with_reducible exact Sees.of Qr (ae _).drew | exact Sees.of Qr (aa (ae _) 1) | exact Sees.of Qr (aa (by assumption) _))
  (first
   | (go_at_call 154;(with_reducible refine (mg _).mono ?_);rintro e w3 ⟨b3,A3,n3,c3,rfl,h3,hb3⟩;replace hb3:=af (aa (ae _) 1) hb3;have q3:Below w2.heap.size w2 w3:=af (ae w2) hb3;replace h:=h.belw hb3;replace h1:=h1.belw hb3;replace h'1:=h'1.belw hb3)
   | (go_at_call 152;(with_reducible refine (mu _ b'1 A'1 n'1 c'1 (((q).den:Int)) ((k)) ?_ b3 A3 n3 c3 (1) (1) ?_ 0 HC.out ?_).mono ?_);(exact h'1.iz);(exact h3.iz);(omega);rintro e w4 ⟨rfl,hb4⟩;have q4:Below w2.heap.size w2 w4:=af q3 hb4;replace h:=h.belw hb4;replace h1:=h1.belw hb4;replace h'1:=h'1.belw hb4;replace h3:=h3.belw hb4))
 have bw4:=bw2.trans (q4.mono bw2.size);clear lx1a lx2aa lx2ab lx2ac lx2ad cx2b lx2b;replace x1a:=x1a.b q4;replace x2a:=x2a.b q4;replace x2b:=x2b.b q4;have lw4:=q4.size;have cx2a:=x2a.c2;obtain ⟨lx2aa,lx2ab,lx2ac,lx2ad⟩:=dj x2a.lt;go_wp2_with fail;(with_reducible refine (gQ _ b1 A1 n1 c1 ((q).num) ((k)) ?_ (Lib.itoa q.num) ?_ ?_ ?_).mono ?_);(exact h1.iz);(omega);(first | exact htab.belw bw4 | exact (htab.belw bw4).belw (aa (ae _) 1) | exact (htab.belw bw4).belw (ae _).drew | exact (htab.belw bw4).belw (by assumption) | fail);(exact rfl);rintro e w5 ⟨rfl,q5⟩;clear cx2a lx2aa lx2ab lx2ac lx2ad;replace h:=h.belw q5;replace h1:=h1.belw q5;replace h'1:=h'1.belw q5;replace h3:=h3.belw q5;replace x1a:=x1a.b q5;replace x2a:=x2a.b q5;replace x2b:=x2b.b q5;have bw5:=bw4.trans (q5.mono bw4.size);have lw5:=q5.size;clear q5 bw4;go_wp2;go_ret;exact ⟨rfl,bw5⟩
theorem pJ (w:World) (b A n c D m e q k) (h:QZ w b A n c D m e q k) (h0:0 < k) (hk:k≤40000000) (htab:Tab w) (hd:q.den≠1) :
 Calls Tryz.prog 141 #[.agg #[.bool b,.slice A n c,.slice D m e]] w (aw w (ag (bC q))):=by
 rw [jg hd];obtain ⟨u,hu⟩:∃ u,co (q.den:Int) 1=u:=⟨_,rfl⟩;have hu0:u≠0:=by rw [← hu];exact rE (by omega)
 have e0:((u:Int) == 0)=false:=by simp;exact hu0
 have HC:=Qh hu;obtain ⟨X,hX⟩:∃ X,Lib.itoa q.num=X:=⟨_,rfl⟩;obtain ⟨Y,hY⟩:∃ Y,Lib.itoa (q.den:Int)=Y:=⟨_,rfl⟩;have hs:=h.sz h0;have hx1:(⟨X.toArray⟩:ByteArray).size≤1000000000:=by show X.length≤_;rw [← hX];have:=fj hs.1 hk (by omega);omega
 have hy1:(⟨Y.toArray⟩:ByteArray).size≤1000000000:=by show Y.length≤_;rw [← hY];have:=fj (z:=(q.den:Int)) (by simpa using hs.2) hk (by omega);omega
 obtain ⟨N,hN⟩:∃ N,(⟨X.toArray⟩:ByteArray).size=N:=⟨_,rfl⟩;obtain ⟨M,hM⟩:∃ M,(⟨Y.toArray⟩:ByteArray).size=M:=⟨_,rfl⟩;rw [hN] at hx1;rw [hM] at hy1;have hc1:(9223372036854775807 < N+1)=False:=by simp;omega
 have hc2:(9223372036854775807≤N)=False:=by simp;omega
 have hc3:(9223372036854775807 < N+1+M)=False:=by simp;omega
 rw [hX,hY];have HX:=Qh hX;have HY:=Qh hY;clear hd hu hu0 hX hY hs;go_in;go_wp2_with fail;(with_reducible refine (fX _ b A n c D m e (q) (k) ?_ ?_ ?_).mono ?_);(exact (h.belw ((Below.refl _ _).alloc Qr _)));(omega);(omega);rintro e w1 ⟨b1,A1,n1,c1,b'1,A'1,n'1,c'1,rfl,h1,h'1,hb1⟩;have q1:=hb1.q1;replace h:=h.belw q1;have x1a:Blk w1 w.heap.size 65 #[.bool b,.slice A n c,.slice D m e]:=(ai _ _ _ (by simp)).below hb1 (by simp);have bw1:=(ae w).trans (q1.mono (ae w).size);have lw1:=hb1.l1;clear q1;go_wp2_with fail;have p2:=(((Kp.refl w1).alloc (.cells #[.bool b1,.slice A1 n1 c1] 194)).alloc (.cells #[.bool b'1,.slice A'1 n'1 c'1] 194));have bw2:=((bw1.alloc (by first | omega | (simp <;> omega)) (.cells #[.bool b1,.slice A1 n1 c1] 194)).alloc (by first | omega | (simp <;> omega)) (.cells #[.bool b'1,.slice A'1 n'1 c'1] 194));have x2a:Blk ((w1.alloc (.cells #[.bool b1,.slice A1 n1 c1] 194)).alloc (.cells #[.bool b'1,.slice A'1 n'1 c'1] 194)) w1.heap.size 194 #[.bool b1,.slice A1 n1 c1]:=((ai _ _ _ (by simp)).alloc (.cells #[.bool b'1,.slice A'1 n'1 c'1] 194));have x2b:Blk ((w1.alloc (.cells #[.bool b1,.slice A1 n1 c1] 194)).alloc (.cells #[.bool b'1,.slice A'1 n'1 c'1] 194)) (w1.heap.size+1) 194 #[.bool b'1,.slice A'1 n'1 c'1]:=(ai _ _ _ (by simp));replace x1a:=((x1a.alloc (.cells #[.bool b1,.slice A1 n1 c1] 194)).alloc (.cells #[.bool b'1,.slice A'1 n'1 c'1] 194));have lw2:w1.heap.size+2≤((w1.alloc (.cells #[.bool b1,.slice A1 n1 c1] 194)).alloc (.cells #[.bool b'1,.slice A'1 n'1 c'1] 194)).heap.size:=by simp
 generalize hE2:((w1.alloc (.cells #[.bool b1,.slice A1 n1 c1] 194)).alloc (.cells #[.bool b'1,.slice A'1 n'1 c'1] 194))=w2 at p2 bw2 lw2 x2a x2b x1a ⊢;clear hE2;replace h:=h.keep p2;replace h1:=h1.keep p2;replace h'1:=h'1.keep p2;clear bw1;obtain ⟨lx1aa,lx1ab,lx1ac,lx1ad⟩:=dj x1a.lt;obtain ⟨lx2aa,lx2ab,lx2ac,lx2ad⟩:=dj x2a.lt;obtain ⟨cx2ba,cx2bb⟩:=x2b.c2;obtain ⟨lx2ba,lx2bb,lx2bc,lx2bd⟩:=dY x2b.lt
 go_region_held3 (fun w'=>Sees w2.heap.size w2 w') (first | with_reducible exact Sees.of Qr (by assumption) | with_reducible exact Sees.of Qr (ae _).drew | exact Sees.of Qr (aa (ae _) 1) | exact Sees.of Qr (aa (by assumption) _))
  (first
   | (go_at_call 154;(with_reducible refine (mg _).mono ?_);rintro e w3 ⟨b3,A3,n3,c3,rfl,h3,hb3⟩;replace hb3:=af (aa (ae _) 1) hb3;have q3:Below w2.heap.size w2 w3:=af (ae w2) hb3;replace h:=h.belw hb3;replace h1:=h1.belw hb3;replace h'1:=h'1.belw hb3)
   | (go_at_call 152;(with_reducible refine (mu _ b'1 A'1 n'1 c'1 (((q).den:Int)) ((k)) ?_ b3 A3 n3 c3 (1) (1) ?_ u HC.out ?_).mono ?_);(exact h'1.iz);(exact h3.iz);(omega);rintro e w4 ⟨rfl,hb4⟩;have q4:Below w2.heap.size w2 w4:=af q3 hb4;replace h:=h.belw hb4;replace h1:=h1.belw hb4;replace h'1:=h'1.belw hb4;replace h3:=h3.belw hb4))
 have bw4:=bw2.trans (q4.mono bw2.size);clear lx1aa lx1ab lx1ac lx1ad lx2aa lx2ab lx2ac lx2ad cx2ba cx2bb lx2ba lx2bb lx2bc lx2bd;replace x1a:=x1a.b q4;replace x2a:=x2a.b q4;replace x2b:=x2b.b q4;have lw4:=q4.size;obtain ⟨lx1aa,lx1ab,lx1ac,lx1ad⟩:=dj x1a.lt;have cx2a:=x2a.c2;obtain ⟨lx2aa,lx2ab,lx2ac,lx2ad⟩:=dj x2a.lt;obtain ⟨cx2ba,cx2bb⟩:=x2b.c2;obtain ⟨lx2ba,lx2bb,lx2bc,lx2bd⟩:=dY x2b.lt;go_wp2_with fail
 go_region_held3 (fun w'=>Sees w4.heap.size w4 w') (first | with_reducible exact Sees.of Qr (by assumption) | with_reducible exact Sees.of Qr (ae _).drew | exact Sees.of Qr (aa (ae _) 1) | exact Sees.of Qr (aa (by assumption) _))
  (first
   | (go_at_call 182;(with_reducible refine (gQ _ b1 A1 n1 c1 ((q).num) ((k)) ?_ X ?_ ?_ ?_).mono ?_);(exact h1.iz);(omega);(first | exact htab.belw bw4 | exact (htab.belw bw4).belw (aa (ae _) 1) | exact (htab.belw bw4).belw (ae _).drew | exact (htab.belw bw4).belw (by assumption) | fail);(exact HX.out);rintro e w5 ⟨rfl,hb5⟩;replace hb5:=af (aa (ae _) 1) hb5;have q5:Below w4.heap.size w4 w5:=af (ae w4) hb5;replace h:=h.belw hb5;replace h1:=h1.belw hb5;replace h'1:=h'1.belw hb5;replace h3:=h3.belw hb5)
   | (go_at_call 182;(with_reducible refine (gQ _ b'1 A'1 n'1 c'1 (((q).den:Int)) ((k)) ?_ Y ?_ ?_ ?_).mono ?_);(exact h'1.iz);(omega);(first | exact htab.belw bw4 | exact (htab.belw bw4).belw (aa (ae _) 1) | exact (htab.belw bw4).belw (ae _).drew | exact (htab.belw bw4).belw (by assumption) | fail);(exact HY.out);rintro e w6 ⟨rfl,hb6⟩;have q6:Below w4.heap.size w4 w6:=af q5 hb6;replace h:=h.belw hb6;replace h1:=h1.belw hb6;replace h'1:=h'1.belw hb6;replace h3:=h3.belw hb6))
 have bw6:=bw4.trans (q6.mono bw4.size);clear lx1aa lx1ab lx1ac lx1ad cx2a lx2aa lx2ab lx2ac lx2ad cx2ba cx2bb lx2ba lx2bb lx2bc lx2bd;replace x1a:=x1a.b q6;replace x2a:=x2a.b q6;replace x2b:=x2b.b q6;have lw6:=q6.size;go_wp2;go_ret;refine ⟨?_,bw6⟩;exact congrArg (fun x=>Ending.returned (.string x)) (nC X Y)
theorem tm (w:World) (b A n c D m e q k) (h:QZ w b A n c D m e q k) (h0:0 < k) (hk:k≤40000000) (htab:Tab w) (T:List UInt8) (hT:bC q=T):Calls Tryz.prog 141 #[.agg #[.bool b,.slice A n c,.slice D m e]] w (aw w (ag T)):=by
 subst hT;by_cases hd:q.den=1
 ·exact pI w b A n c D m e q k h h0 hk htab hd
 exact pJ w b A n c D m e q k h h0 hk htab hd
def aX (m:aR):List UInt8:=32 :: (m.name ++ 32 :: (bC m.x.q ++ 32 :: (bC m.y.q ++ [59])))
def fk (b:ay):List UInt8:=[98,111,100,121,32] ++ b.name ++ [32,123] ++ b.pts.flatMap aX ++ [32,125]
theorem dA {q:Rat}{k:Nat}(hs:Sz q k) (hk:k≤40):(bC q).length≤1000:=by
 have h1:=fj (z:=q.num) (k:=k) (K:=40) hs.1 hk (by decide);have h2:=fj (z:=(q.den:Int)) (k:=k) (K:=40) (by simpa using hs.2) hk (by decide);by_cases h:q.den=1
 ·rw [jf h];omega
 rw [jg h,List.length_append,List.length_cons];omega
def dW (m:aR):Prop:=m.name.length≤1000∧Sz m.x.q 40∧Sz m.y.q 40
theorem jU {m:aR}(h:dW m):(aX m).length≤3010:=by
 have h1:=dA h.2.1 Qr;have h2:=dA h.2.2 Qr;have h3:=h.1;unfold aX;simp only [List.length_cons,List.length_append,List.length_nil];omega
theorem fF:∀ {l:List aR},(∀ m∈l,dW m)→(l.flatMap aX).length≤3010 * l.length
 | [],_=>by simp
 | m :: l,h=>by
  have h1:=jU (h m (by simp));have h2:=fF (l:=l) (fun x hx=>h x (by simp [hx]));simp only [List.flatMap_cons,List.length_append,List.length_cons];omega
theorem dq {α:Type}(f:α→List UInt8) {l:List α}{i:Nat}{a:α}(h:l[i]?=some a):(l.take (i+1)).flatMap f=(l.take i).flatMap f ++ f a:=by
 rw [List.take_add_one,h];simp
theorem dt {α:Type}(f:α→List UInt8):∀ (l:List α) (i:Nat),((l.take i).flatMap f).length≤(l.flatMap f).length
 | [],i=>by simp
 | a :: l,0=>by simp
 | a :: l,i+1=>by
  have:=dt f l i;simp only [List.take_succ_cons,List.flatMap_cons,List.length_append];omega
abbrev NmL (s:List UInt8):Prop:=s.length < 4611686018427387904
def du (w:World) (g o:Nat) (r:RD) (k:Nat):Prop:=∃ b A n c D m e,w.cell? ⟨g,o,none⟩=some (.bool b)∧w.cell? ⟨g,o+1,none⟩=some (.slice A n c)∧w.cell? ⟨g,o+2,none⟩=some (.slice D m e)∧QD w b A n c D m e r k
def dB (k:Nat) (w:World) (g o:Nat) (m:aR):Prop:=w.cell? ⟨g,o,none⟩=some (ag m.name)∧du w g (o+1) m.x k∧du w g (o+4) m.y k∧NmL m.name
def SlS {α:Type}(P:World→Nat→Nat→α→Prop) (s:Nat) (w:World) (A:Option Addr) (n c:Nat) (l:List α):Prop :=
  l.length=n∧n≤c∧(0 < n→∃ g o,A=some ⟨g,o,none⟩∧g < w.heap.size∧∀ i a,l[i]?=some a→P w g (o+i * s) a)
def dC (k:Nat) (w:World) (g o:Nat) (b:ay):Prop:=∃ A n c,w.cell? ⟨g,o,none⟩=some (ag b.name)∧w.cell? ⟨g,o+1,none⟩=some (.slice A n c)∧SlS (dB k) 7 w A n c b.pts∧NmL b.name
def gU (w:World) (g o:Nat) (j:bc):Prop:=w.cell? ⟨g,o,none⟩=some (ag j.name)∧w.cell? ⟨g,o+1,none⟩=some (.int .i64 j.kind)∧w.cell? ⟨g,o+2,none⟩=some (.int .i64 j.a)∧w.cell? ⟨g,o+3,none⟩=some (.int .i64 j.point)∧w.cell? ⟨g,o+4,none⟩=some (.int .i64 j.b)∧w.cell? ⟨g,o+5,none⟩=some (.int .i64 j.on)∧w.cell? ⟨g,o+6,none⟩=some (.int .i64 j.to_)∧NmL j.name
def gV (w:World) (g o:Nat) (d:bj):Prop:=w.cell? ⟨g,o,none⟩=some (ag d.name)∧w.cell? ⟨g,o+1,none⟩=some (.int .i64 d.body)∧NmL d.name
structure LkS (k:Nat) (w:World) (A:Option Addr) (n c:Nat) (B:Option Addr) (p d:Nat) (C:Option Addr) (q e:Nat) (L:au):Prop where
  name:NmL L.name
  bodies:SlS (dC k) 2 w A n c L.bodies
  joints:SlS gU 7 w B p d L.joints
  drivers:SlS gV 2 w C q e L.drivers
theorem av {w w':World}{g o:Nat}{v:Value}(h:w.cell? ⟨g,o,none⟩=some v) (hb:Below w.heap.size w w'):w'.cell? ⟨g,o,none⟩=some v:=(hb.cell (p:=⟨g,o,none⟩) (World.block_lt_of_cell? w _ h)).trans h
theorem du.belw {w w':World}{g o:Nat}{r:RD}{k:Nat}(h:du w g o r k) (hb:Below w.heap.size w w'):du w' g o r k:=by
 obtain ⟨b,A,n,c,D,m,e,h1,h2,h3,h4⟩:=h;exact ⟨b,A,n,c,D,m,e,av h1 hb,av h2 hb,av h3 hb,h4.belw hb⟩
theorem dB.belw {w w':World}{g o:Nat}{m:aR}{k:Nat}(h:dB k w g o m) (hb:Below w.heap.size w w'):dB k w' g o m:=⟨av h.1 hb,h.2.1.belw hb,h.2.2.1.belw hb,h.2.2.2⟩
theorem SlS.belw {α:Type}{P:World→Nat→Nat→α→Prop}{s:Nat}{w w':World}{A:Option Addr}{n c:Nat}{l:List α}(hP:∀ g o a,P w g o a→P w' g o a) (h:SlS P s w A n c l) (hb:Below w.heap.size w w'):SlS P s w' A n c l:=by
 refine ⟨h.1,h.2.1,fun hn=>?_⟩;obtain ⟨g,o,e,hg,h3⟩:=h.2.2 hn;exact ⟨g,o,e,Nat.lt_of_lt_of_le hg hb.size,fun i a ha=>hP _ _ _ (h3 i a ha)⟩
theorem dC.belw {w w':World}{g o:Nat}{b:ay}{k:Nat}(h:dC k w g o b) (hb:Below w.heap.size w w'):dC k w' g o b:=by
 obtain ⟨A,n,c,h1,h2,h3,h4⟩:=h;exact ⟨A,n,c,av h1 hb,av h2 hb,h3.belw (fun _ _ _ h=>h.belw hb) hb,h4⟩
theorem gU.belw {w w':World}{g o:Nat}{j:bc}(h:gU w g o j) (hb:Below w.heap.size w w'):gU w' g o j :=
 ⟨av h.1 hb,av h.2.1 hb,av h.2.2.1 hb,av h.2.2.2.1 hb,av h.2.2.2.2.1 hb,av h.2.2.2.2.2.1 hb,av h.2.2.2.2.2.2.1 hb,h.2.2.2.2.2.2.2⟩
theorem gV.belw {w w':World}{g o:Nat}{d:bj}(h:gV w g o d) (hb:Below w.heap.size w w'):gV w' g o d:=⟨av h.1 hb,av h.2.1 hb,h.2.2⟩
theorem LkS.belw {k:Nat}{w w':World}{A B C:Option Addr}{n c p d q e:Nat}{L:au}(h:LkS k w A n c B p d C q e L) (hb:Below w.heap.size w w'):LkS k w' A n c B p d C q e L :=
 ⟨h.name,h.bodies.belw (fun _ _ _ h=>h.belw hb) hb,h.joints.belw (fun _ _ _ h=>h.belw hb) hb,h.drivers.belw (fun _ _ _ h=>h.belw hb) hb⟩
theorem SlS.bd {k:Nat}{w w':World}{A:Option Addr}{n c:Nat}{l:List ay}(h:SlS (dC k) 2 w A n c l) (hb:Below w.heap.size w w'):SlS (dC k) 2 w' A n c l:=h.belw (fun _ _ _ h=>h.belw hb) hb
theorem SlS.mk_ {k:Nat}{w w':World}{A:Option Addr}{n c:Nat}{l:List aR}(h:SlS (dB k) 7 w A n c l) (hb:Below w.heap.size w w'):SlS (dB k) 7 w' A n c l:=h.belw (fun _ _ _ h=>h.belw hb) hb
theorem SlS.jt {w w':World}{A:Option Addr}{n c:Nat}{l:List bc}(h:SlS gU 7 w A n c l) (hb:Below w.heap.size w w'):SlS gU 7 w' A n c l:=h.belw (fun _ _ _ h=>h.belw hb) hb
theorem SlS.dr {w w':World}{A:Option Addr}{n c:Nat}{l:List bj}(h:SlS gV 2 w A n c l) (hb:Below w.heap.size w w'):SlS gV 2 w' A n c l:=h.belw (fun _ _ _ h=>h.belw hb) hb
theorem SlS.at_ {α:Type}{P:World→Nat→Nat→α→Prop}{s:Nat}{w:World}{A:Option Addr}{n c:Nat}{l:List α}(h:SlS P s w A n c l) {i:Nat}(hi:i < n):∃ g o a,A=some ⟨g,o,none⟩∧g < w.heap.size∧n≤c∧l[i]?=some a∧P w g (o+i * s) a:=by
 obtain ⟨g,o,e,hg,h3⟩:=h.2.2 (by omega);have hl:i < l.length:=by rw [h.1];exact hi
 exact ⟨g,o,l[i],e,hg,h.2.1,List.getElem?_eq_getElem hl,h3 i _ (List.getElem?_eq_getElem hl)⟩
theorem SlS.rowAt {α:Type}{P:World→Nat→Nat→α→Prop}{s:Nat}{w:World}{g o n c:Nat}{l:List α}(h:SlS P s w (some ⟨g,o,none⟩) n c l) {j:Nat}(hj:j < n):∃ a,l[j]?=some a∧P w g (o+j * s) a:=by
 obtain ⟨g',o',a,e,_,_,ha,hp⟩:=h.at_ hj;injection e with e;injection e with e1 e2 _;subst e1 e2;exact ⟨a,ha,hp⟩
theorem pK (b:Nat) (w:World) (h0:w.cell? ⟨b,0,none⟩=some (.pointer (some ⟨b,0,none⟩))) :
 Calls Tryz.prog 58 #[.pointer (some ⟨b,0,none⟩)] w fun e w'=>e=.returned (.tuple #[])∧w'=w:=by
 obtain ⟨j,hj,_⟩:=Option.map_eq_some_iff.1 (show (Tryz.prog.info? 70).map TypeInfo.size=some 2 by kernel_rfl);go_in;go_wp2;rw [Lib.run_neq_ptr_same w _ Tryz.underlying68 hj];go_wp2;go_end0;exact ⟨rfl,rfl⟩
theorem nD (b:Nat) (w:World) (h0:w.cell? ⟨b,0,none⟩=some (.pointer none)) (hsh:w.shape? b=some (70,2)) (hfz:w.frozen? ⟨b,0,none⟩=false) :
 Calls Tryz.prog 58 #[.pointer (some ⟨b,0,none⟩)] w fun e w'=>e=.returned (.tuple #[])∧w'=w.setCell ⟨b,0,none⟩ (.pointer (some ⟨b,0,none⟩)):=by
 obtain ⟨j,hj,hjs⟩:=Option.map_eq_some_iff.1 (show (Tryz.prog.info? 70).map TypeInfo.size=some 2 by kernel_rfl);go_in;go_wp2;rw [Lib.run_to_unsafe w ⟨b,0,none⟩ Tryz.underlying68 Tryz.underlying152 hj (by rw [hjs];decide) hsh (Nat.zero_lt_succ 1)];simp only [Result.andThen];rw [Oper.upon_value];go_wp2;rw [run_callFunc_extern Tryz.func99 (by kernel_rfl) (by kernel_rfl) (by kernel_rfl) (e:=Extern.AbiNoEscape.same) (by kernel_rfl)];rw [Lib.run_noEscape];simp only [Result.andThen];rw [Oper.upon_value];go_wp2;rw [Lib.run_from_unsafe w ⟨b,0,none⟩ Tryz.underlying152 Tryz.underlying68 hj hsh (by kernel_rfl)];simp only [Result.andThen];rw [Oper.upon_value];go_wp2;go_end0;exact ⟨rfl,rfl⟩
def Oth (b:Nat) (w w':World):Prop:=∀ g T cs,g≠b→T≠5→Blk w g T cs→Blk w' g T cs
theorem Oth.refl (b:Nat) (w:World):Oth b w w:=fun _ _ _ _ _ h=>h
theorem Oth.set {b:Nat}{w w':World}(h:Oth b w w') (i:Nat) (u:Value):Oth b w (w'.setCell ⟨b,i,none⟩ u):=fun g T cs hg hT hb=>(h g T cs hg hT hb).far hg u
theorem nF (B b:Nat) (bs:List Value) (w:World) (h:Lib.IsBuilder 70 5 B b bs w) :
 Calls Tryz.prog 58 #[.pointer (some ⟨b,0,none⟩)] w fun e w'=>e=.returned (.tuple #[])∧(Lib.BuilderAt 70 5 B b (.pointer (some ⟨b,0,none⟩)) bs w'∧Below B w w'∧Oth b w w'):=by
 rcases h with h | h
 ·refine (nD b w h.cell0 h.shape h.frozen0).mono ?_
  rintro e w' ⟨rfl,rfl⟩;exact ⟨rfl,h.used _,(Below.refl B w).setCell (p:=⟨b,0,none⟩) h.1 _,(Oth.refl b w).set 0 _⟩
 refine (pK b w h.cell0).mono ?_;rintro e w' ⟨rfl,rfl⟩;exact ⟨rfl,h,Below.refl B _,Oth.refl b _⟩
theorem nG (B b:Nat) (bs:List Value) (s:ByteArray) (w:World) (h:Lib.IsBuilder 70 5 B b bs w) (hlen:bs.length+s.size≤140737488355328) (hBw:B≤w.heap.size) :
 Calls Tryz.prog 27 #[.pointer (some ⟨b,0,none⟩),.string s] w fun e w'=>e=.returned (.tuple #[.int .i64 s.size,.nilIface])∧(Lib.BuilderAt 70 5 B b (.pointer (some ⟨b,0,none⟩)) (bs ++ Lib.strCells s) w'∧Below B w w'∧Oth b w w'):=by
 obtain ⟨i0,hi,hz0,hz1,hz2⟩:=info_parts (show (Tryz.prog.info? 5).map (fun i=>(i.zero,i.size,i.bytes))=some (some (.int .u8 0),1,1) by kernel_rfl);go_in;go_wp2_with (go_at_call 58;refine (nF B b bs _ h).mono ?_);rintro e w1 ⟨rfl,h1,hb1,ho1⟩;obtain ⟨hB,v,hbk,hown,hne⟩:=h1;have c0:w1.cell? ⟨b,0,none⟩=some (.pointer (some ⟨b,0,none⟩)):=by rw [Lib.cell_of_heap hbk];rfl
 have c1:w1.cell? ⟨b,1,none⟩=some v:=by rw [Lib.cell_of_heap hbk];rfl
 go_wp2_with (at_builtin;refine Lib.wpList_append_own_string _ rfl _ _ 47 9 rfl B 5 i0 Tryz.underlying47 Tryz.underlying9 hi hz0 hz1 hz2 _ _ _ rfl hown s rfl ?c3 ?c4 ?c5 ?_)
 case c3=>unfold maxLen;omega
 case c4=>omega
 case c5=>have:=hb1.size;omega
 intro v' w2 hown' hgrow _
 have hlt:b < w1.heap.size:=by
  rcases Nat.lt_or_ge b w1.heap.size with h' | h'
  ·exact h'
  simp [Array.getElem?_eq_none h'] at hbk
 have hb2:w2.heap[b]?=some (.cells #[.pointer (some ⟨b,0,none⟩),v] 70 (0,0)):=by
  rw [hgrow.block b hlt (fun e=>hne e.symm)];exact hbk
 have d0:w2.cell? ⟨b,0,none⟩=some (.pointer (some ⟨b,0,none⟩)):=by rw [Lib.cell_of_heap hb2];rfl
 have d1:w2.cell? ⟨b,1,none⟩=some v:=by rw [Lib.cell_of_heap hb2];rfl
 have f1:w2.frozen? ⟨b,1,none⟩=false:=Lib.frozen_of_heap hb2 1
 obtain ⟨ao,n',cap,rfl⟩:∃ ao n' cap,v'=.slice ao n' cap:=by
  rcases hown'.2 with ⟨hv,_⟩ | ⟨g,cap,cur,hv,_⟩
  ·exact ⟨_,_,_,hv⟩
  exact ⟨_,_,_,hv⟩
 go_wp2;go_ret2;refine ⟨rfl,?_,?_,Oth.set (fun g T cs hg hT hb=>?_) 1 _⟩
 ·exact Lib.BuilderAt.put (T:=70) (e:=5) hB hb2 (bs':=bs ++ Lib.strCells s) (by simpa [Lib.strCells_length] using hown') (by decide)
 ·exact (hb1.grown hgrow (by have:=hb1.size;omega) (fun k hk=>(hown.lt k hk).1)).setCell (p:=⟨b,1,none⟩) hB _
 have h9:=ho1 g T cs hg hT hb;refine (hgrow.block g h9.lt (fun hgv=>?_)).trans h9;rcases hown.2 with ⟨hv,_⟩ | ⟨g',cap,cur,hv,_,hk,_⟩
 ·rw [hv] at hgv;cases hgv
 rw [hv] at hgv;injection hgv with hgv;subst hgv;have:=h9.symm.trans hk;simp only [Option.some.injEq,Obj.cells.injEq] at this;exact hT this.2.1
theorem fl (w:World) (b:Bool) (A:Option Addr) (n c:Nat) (D:Option Addr) (m e:Nat) (r:RD) (k:Nat) (h:QD w b A n c D m e r k) (h0:0 < k) (hk:k≤40000000) (htab:Tab w) (T:List UInt8) (hT:bC r.q=T) :
 Calls Tryz.prog 101 #[.agg #[.bool b,.slice A n c,.slice D m e]] w (aw w (ag T)):=by
 have H:=Qh h;have HT:=Qh hT;clear h hT;go_in;go_wp2_with fail;have q0:Below w.heap.size w (w.alloc (.cells #[.bool b,.slice A n c,.slice D m e] 65)):=(Below.refl _ _).alloc Qr _;(with_reducible refine (tm _ b A n c D m e r.q k (H.out.belw q0).qz h0 hk (htab.belw q0) T HT.out).mono ?_);rintro e' w1 ⟨rfl,hb1⟩;have q1:=q0.trans (hb1.mono q0.size);go_wp2;go_ret;exact ⟨rfl,q1⟩
def Bu (B b:Nat) (w:World) (l:List UInt8):Prop:=Lib.IsBuilder 70 5 B b (Lib.byteCells l) w∧B≤w.heap.size
theorem BuilderAt.belw {T e:TypeId}{B b:Nat}{p:Value}{bs:List Value}{w w':World}(h:Lib.BuilderAt T e B b p bs w) (hb:Below w.heap.size w w'):Lib.BuilderAt T e B b p bs w':=by
 have hlt:=h.lt;obtain ⟨hB,v,hk,hown,hne⟩:=h;refine ⟨hB,v,(hb.block b hlt).trans hk,⟨hown.1,?_⟩,hne⟩;rcases hown.2 with h1 | ⟨g,cap,cur,h1,h2,h3,h4⟩
 ·exact Or.inl h1
 refine Or.inr ⟨g,cap,cur,h1,h2,(hb.block g ?_).trans h3,h4⟩;exact lt_of_block h3
theorem Bu.belw {B b:Nat}{w w':World}{l:List UInt8}(h:Bu B b w l) (hb:Below w.heap.size w w'):Bu B b w' l :=
 ⟨h.1.imp (fun x=>BuilderAt.belw x hb) (fun x=>BuilderAt.belw x hb),Nat.le_trans h.2 hb.size⟩
theorem Bu.lt {B b:Nat}{w:World}{l:List UInt8}(h:Bu B b w l):b < w.heap.size:=h.1.elim (fun x=>x.lt) (fun x=>x.lt)
theorem Bu.new {w:World}:Bu w.heap.size w.heap.size (w.alloc (.cells #[.pointer none,.slice none 0 0] 70)) [] :=
 ⟨Lib.fresh_isBuilder _ _ w,by simp⟩
theorem iw (a:List UInt8) (b:List UInt8):Lib.byteCells a ++ Lib.strCells ⟨b.toArray⟩=Lib.byteCells (a ++ b):=by
 simp [Lib.strCells,Lib.byteCells]
theorem bM (B b:Nat) (w:World) (l s:List UInt8) (h:Bu B b w l) (hlen:l.length+s.length≤140737488355328) :
 Calls Tryz.prog 27 #[.pointer (some ⟨b,0,none⟩),ag s] w fun e w'=>e=.returned (.tuple #[.int .i64 (s.length:Nat),.nilIface])∧Bu B b w' (l ++ s)∧Below B w w'∧Oth b w w':=by
 have hz:(⟨s.toArray⟩:ByteArray).size=s.length:=aq s;refine (nG B b (Lib.byteCells l) ⟨s.toArray⟩ w h.1 (by rw [hz];simpa [Lib.byteCells] using hlen) h.2).mono ?_;rintro e w' ⟨rfl,h1,h2,h3⟩;rw [iw] at h1;exact ⟨by rw [hz],⟨Or.inr h1,Nat.le_trans h.2 h2.size⟩,h2,h3⟩
theorem pL (B b:Nat) (w:World) (l:List UInt8) (h:Bu B b w l) :
 Calls Tryz.prog 31 #[.pointer (some ⟨b,0,none⟩)] w fun e w'=>e=.returned (.int .i64 (l.length:Nat))∧w'=w:=by
 refine (Tryz.Builder_Len B b _ w h.1).mono ?_;rintro e w' ⟨rfl,rfl⟩;exact ⟨by simp [Lib.byteCells],rfl⟩
theorem lO (B b:Nat) (w:World) (l:List UInt8) (h:Bu B b w l) :
 Calls Tryz.prog 32 #[.pointer (some ⟨b,0,none⟩)] w fun e w'=>e=.returned (ag l)∧Below B w w':=Tryz.Builder_String_any B b l w h.1 h.2
theorem Blk.c7 {w:World}{g t:Nat}{a0 a1 a2 a3 a4 a5 a6:Value}(h:Blk w g t #[a0,a1,a2,a3,a4,a5,a6]):w.cell? ⟨g,0,none⟩=some a0∧w.cell? ⟨g,1,none⟩=some a1∧w.cell? ⟨g,2,none⟩=some a2∧w.cell? ⟨g,3,none⟩=some a3∧w.cell? ⟨g,4,none⟩=some a4∧w.cell? ⟨g,5,none⟩=some a5∧w.cell? ⟨g,6,none⟩=some a6:=⟨h.cell 0,h.cell 1,h.cell 2,h.cell 3,h.cell 4,h.cell 5,h.cell 6⟩
abbrev S7 (g:Nat) (a0 a1 a2 a3 a4 a5 a6:Value) (w:World):Prop:=w.cell? ⟨g,0,none⟩=some a0∧w.cell? ⟨g,1,none⟩=some a1∧w.cell? ⟨g,2,none⟩=some a2∧w.cell? ⟨g,3,none⟩=some a3∧w.cell? ⟨g,4,none⟩=some a4∧w.cell? ⟨g,5,none⟩=some a5∧w.cell? ⟨g,6,none⟩=some a6
theorem dB.short {w:World}{g o:Nat}{m:aR}(h:dB 40 w g o m) (hm:m.name.length≤1000):dW m:=by
 obtain ⟨_,⟨b,A,n,c,D,m1,e,_,_,_,h1⟩,⟨b',A',n',c',D',m1',e',_,_,_,h2⟩,_⟩:=h;exact ⟨hm,h1.sz (by decide),h2.sz (by decide)⟩
theorem SlS.short {w:World}{A:Option Addr}{n c:Nat}{l:List aR}(h:SlS (dB 40) 7 w A n c l) (hms:∀ m∈l,m.name.length≤1000):∀ m∈l,dW m:=by
 intro m hm;obtain ⟨i,hi,e⟩:=List.getElem_of_mem hm;obtain ⟨g,o,a,_,_,_,ha,hp⟩:=h.at_ (i:=i) (by rw [← h.1];exact hi);rw [List.getElem?_eq_getElem hi] at ha;injection ha with ha;rw [← ha,e] at hp;exact hp.short (hms m hm)
theorem tp (w:World) (A:Option Addr) (n c:Nat) (b:ay) (h:SlS (dB 40) 7 w A n c b.pts) (htab:Tab w) (hn:n≤1000) (hnm:b.name.length≤1000) (hms:∀ m∈b.pts,m.name.length≤1000) (T:List UInt8) (hT:fk b=T) :
 Calls Tryz.prog 60 #[.agg #[ag b.name,.slice A n c]] w (aw w (ag T)):=by
 have HM:=Qh (h.short hms);have HF:=Qh (fF (h.short hms));have hlen:=h.1;have hnc:=h.2.1;have hsn:=aq b.name;obtain ⟨h1,eh1⟩:∃ t,[98,111,100,121,32] ++ b.name=t:=⟨_,rfl⟩;have ah1:=bD ([98,111,100,121,32]) (b.name);rw [eh1] at ah1;have lh1:h1.length=5+b.name.length:=by rw [← eh1,List.length_append];try simp
 have kh1:(9223372036854775807 < 5+b.name.length)=False:=eq_false (by omega);have zh1:=aq h1;obtain ⟨h2,eh2⟩:∃ t,h1 ++ [32,123]=t:=⟨_,rfl⟩;have ah2:=bD (h1) ([32,123]);rw [eh2] at ah2;have lh2:h2.length=h1.length+2:=by rw [← eh2,List.length_append];try simp
 have kh2:(9223372036854775807 < h1.length+2)=False:=eq_false (by omega);have zh2:=aq h2;have HE:Hid (b.pts.flatMap aX ++ [32,125] ++ []=b.pts.flatMap aX ++ [32,125]∧T=h2 ++ b.pts.flatMap aX ++ [32,125]):=Qh ⟨by simp,by rw [← hT,← eh2,← eh1];rfl⟩;have HLN:=Qh hlen;have HTab:=Qh htab;have H:=Qh h;have hl2:h2.length≤1007:=by omega
 clear h hms hT htab hlen eh1 eh2 lh1 lh2;go_in;go_wp2_with fail
 have B0:Bu (w.heap.size+1) (w.heap.size+1) ((w.alloc (.cells #[ag b.name,.slice A n c] 62)).alloc (.cells #[.pointer none,.slice none 0 0] 70)) []:=by
  have:=Bu.new (w:=w.alloc (.cells #[ag b.name,.slice A n c] 62));simpa using this
 have q0:Below w.heap.size w ((w.alloc (.cells #[ag b.name,.slice A n c] 62)).alloc (.cells #[.pointer none,.slice none 0 0] 70)):=((ae w).alloc Qr _).alloc (by simp) _;have xa:Blk ((w.alloc (.cells #[ag b.name,.slice A n c] 62)).alloc (.cells #[.pointer none,.slice none 0 0] 70)) w.heap.size 62 #[ag b.name,.slice A n c]:=(ai _ _ _ rfl).alloc _;(with_reducible refine (bM _ _ _ _ h2 B0 (by simp;omega)).mono ?_);rintro e' w1 ⟨rfl,B1,q1,_⟩;have q1:Below w.heap.size w w1:=q0.trans (q1.mono (by omega));have xa:=xa.below ‹Below (w.heap.size+1) _ w1› (by omega);rw [List.nil_append] at B1;clear B0 q0;obtain ⟨cA0,cA1⟩:=xa.c2;have HB:=Qh B1;clear B1;go_wp2_with fail;clear cA0 cA1;go_loopw [14] (fun iv wr=>∃ i:Nat,iv=.int .i64 (i:Nat)∧i≤n∧Hid (Bu (w.heap.size+1) (w.heap.size+1) wr (h2 ++ (b.pts.take i).flatMap aX))∧Below w.heap.size w wr) (fun iv _=>n - (intOf iv).toNat)
 case atStart=>exact ⟨0,rfl,Nat.zero_le _,by simpa using HB,q1⟩
 case round =>
  clear HB q1;obtain ⟨i,rfl,hi,HB,hb⟩:=hrel;rename World=>wa;have hfl:=dt aX b.pts i;rcases Nat.lt_or_ge i n with hlt | hge
  ·have hi1:((i:Int) < (n:Int))=True:=by simp;omega
   obtain ⟨g,o,m,e1,hg,_,hbi,hM⟩:=(H.out.mk_ hb).at_ hlt;subst e1;have hsh:=HM.out m (List.mem_of_getElem? hbi);obtain ⟨hm1,hm2,hm3⟩:=hsh;have hfs:=dq aX hbi;have hfl2:=dt aX b.pts (i+1);obtain ⟨d0,⟨b1,A1,n1,c1,D1,m1,e1,d1,d2,d3,hQ1⟩,⟨b2,A2,n2,c2,D2,m2,e2,d4,d5,d6,hQ2⟩,hmn⟩:=hM;have d2:wa.cell? ⟨g,o+i * 7+2,none⟩=some (.slice A1 n1 c1):=d2;have d3:wa.cell? ⟨g,o+i * 7+3,none⟩=some (.slice D1 m1 e1):=d3;have d5:wa.cell? ⟨g,o+i * 7+5,none⟩=some (.slice A2 n2 c2):=d5;have d6:wa.cell? ⟨g,o+i * 7+6,none⟩=some (.slice D2 m2 e2):=d6;have hsm:=aq m.name;obtain ⟨X,hX⟩:∃ X,bC m.x.q=X:=⟨_,rfl⟩;obtain ⟨Y,hY⟩:∃ Y,bC m.y.q=Y:=⟨_,rfl⟩;have hsX:=aq X;have hsY:=aq Y;have hlX:X.length≤1000:=by rw [← hX];exact dA hm2 Qr
   have hlY:Y.length≤1000:=by rw [← hY];exact dA hm3 Qr
   obtain ⟨s1,es1⟩:∃ t,[32] ++ m.name=t:=⟨_,rfl⟩;have as1:=bD ([32]) (m.name);rw [es1] at as1;have ls1:s1.length=1+m.name.length:=by rw [← es1,List.length_append];try simp
   have ks1:(9223372036854775807 < 1+m.name.length)=False:=eq_false (by omega);have zs1:=aq s1;obtain ⟨s2,es2⟩:∃ t,s1 ++ [32]=t:=⟨_,rfl⟩;have as2:=bD (s1) ([32]);rw [es2] at as2;have ls2:s2.length=s1.length+1:=by rw [← es2,List.length_append];try simp
   have ks2:(9223372036854775807 < s1.length+1)=False:=eq_false (by omega);have zs2:=aq s2;obtain ⟨s3,es3⟩:∃ t,s2 ++ X=t:=⟨_,rfl⟩;have as3:=bD (s2) (X);rw [es3] at as3;have ls3:s3.length=s2.length+X.length:=by rw [← es3,List.length_append];try simp
   have ks3:(9223372036854775807 < s2.length+X.length)=False:=eq_false (by omega);have zs3:=aq s3;obtain ⟨s4,es4⟩:∃ t,s3 ++ [32]=t:=⟨_,rfl⟩;have as4:=bD (s3) ([32]);rw [es4] at as4;have ls4:s4.length=s3.length+1:=by rw [← es4,List.length_append];try simp
   have ks4:(9223372036854775807 < s3.length+1)=False:=eq_false (by omega);have zs4:=aq s4;obtain ⟨s5,es5⟩:∃ t,s4 ++ Y=t:=⟨_,rfl⟩;have as5:=bD (s4) (Y);rw [es5] at as5;have ls5:s5.length=s4.length+Y.length:=by rw [← es5,List.length_append];try simp
   have ks5:(9223372036854775807 < s4.length+Y.length)=False:=eq_false (by omega);have zs5:=aq s5;obtain ⟨s6,es6⟩:∃ t,s5 ++ [59]=t:=⟨_,rfl⟩;have as6:=bD (s5) ([59]);rw [es6] at as6;have ls6:s6.length=s5.length+1:=by rw [← es6,List.length_append];try simp
   have ks6:(9223372036854775807 < s5.length+1)=False:=eq_false (by omega);have zs6:=aq s6
   have hmt:aX m=s6:=by
    rw [← es6,← es5,← es4,← es3,← es2,← es1,← hX,← hY];unfold aX;simp
   rw [hmt] at hfs
   have hls:((b.pts.take i).flatMap aX).length+s6.length≤3010 * n:=by
    have:=congrArg List.length hfs;rw [List.length_append] at this;have h9:=HF.out;have h8:=HLN.out;rw [h8] at h9;omega
   have HX:=Qh hX;have HY:=Qh hY;have HFS:=Qh hfs;have HQ1:=Qh hQ1;have HQ2:=Qh hQ2;have HLS:=Qh hls;have hga:g < wa.heap.size:=hg;clear hX hY hfs hQ1 hQ2 hls hmt hfl hfl2 hbi hm1 hm2 hm3 es1 es2 es3 es4 es5 es6 ls1 ls2 ls3 ls4 ls5 ls6;go_wp2_with fail;have xp:Blk (wa.alloc (.cells #[ag m.name,.bool b1,.slice A1 n1 c1,.slice D1 m1 e1,.bool b2,.slice A2 n2 c2,.slice D2 m2 e2] 67)) wa.heap.size 67 #[ag m.name,.bool b1,.slice A1 n1 c1,.slice D1 m1 e1,.bool b2,.slice A2 n2 c2,.slice D2 m2 e2]:=ai _ _ _ rfl;have qb:Below wa.heap.size wa (wa.alloc (.cells #[ag m.name,.bool b1,.slice A1 n1 c1,.slice D1 m1 e1,.bool b2,.slice A2 n2 c2,.slice D2 m2 e2] 67)):=(ae wa).alloc Qr _;have HBb:=Qh (HB.out.belw qb);have HTb:=Qh ((HTab.out.belw hb).belw qb);have HQ1b:=Qh (HQ1.out.belw qb);have HQ2b:=Qh (HQ2.out.belw qb);have bwb:=hb.trans (qb.mono hb.size);have hwb:wa.heap.size < (wa.alloc (.cells #[ag m.name,.bool b1,.slice A1 n1 c1,.slice D1 m1 e1,.bool b2,.slice A2 n2 c2,.slice D2 m2 e2] 67)).heap.size:=xp.lt;have hbl:wa.heap.size≠w.heap.size+1:=by have:=HB.out.lt;omega
   clear HB HQ1 HQ2 d0 d1 d2 d3 d4 d5 d6;generalize (wa.alloc (.cells #[ag m.name,.bool b1,.slice A1 n1 c1,.slice D1 m1 e1,.bool b2,.slice A2 n2 c2,.slice D2 m2 e2] 67))=wb at xp qb HBb HTb HQ1b HQ2b bwb hwb ⊢;obtain ⟨cp0,cp1,cp2,cp3,cp4,cp5,cp6⟩:=xp.c7
   go_region_held3 (S7 wa.heap.size (ag m.name) (.bool b1) (.slice A1 n1 c1) (.slice D1 m1 e1) (.bool b2) (.slice A2 n2 c2) (.slice D2 m2 e2)) (first | with_reducible exact Blk.c7 (by assumption) | with_reducible exact Blk.c7 (Blk.drew (by assumption)) | exact Blk.c7 (Blk.drewN (by assumption) _))
    (first
     | (go_at_call 101;(with_reducible refine (fl _ b1 A1 n1 c1 D1 m1 e1 m.x 40 ?_ (by decide) (by decide) ?_ X HX.out).mono ?_);(exact HQ1b.out.belw (by first | exact qwy | exact (ae wb).drew | exact aa (ae wb) _));(exact HTb.out.belw (by first | exact qwy | exact (ae wb).drew | exact aa (ae wb) _));rintro e' wx ⟨rfl,hwx⟩;have qwx:Below wb.heap.size wb wx:=(by first | exact af qwy hwx | exact af (ae wb) hwx | exact af (aa (ae wb) _) hwx);have xwx:=xp.below qwx xp.lt)
     | (go_at_call 101;(with_reducible refine (fl _ b2 A2 n2 c2 D2 m2 e2 m.y 40 ?_ (by decide) (by decide) ?_ Y HY.out).mono ?_);(exact HQ2b.out.belw (by first | exact qwx | exact (ae wb).drew | exact aa (ae wb) _));(exact HTb.out.belw (by first | exact qwx | exact (ae wb).drew | exact aa (ae wb) _));rintro e' wy ⟨rfl,hwy⟩;have qwy:Below wb.heap.size wb wy:=(by first | exact af qwx hwy | exact af (ae wb) hwy | exact af (aa (ae wb) _) hwy);have xwy:=xp.below qwy xp.lt)
     | (go_at_call 27;(with_reducible refine (bM _ _ _ _ s6 (HBb.out.belw (by first | exact qwx | exact qwy)) (by rw [List.length_append];have:=HLS.out;omega)).mono ?_);rintro e' wz ⟨rfl,Bz,qz,oz⟩;have xz:=oz wa.heap.size 67 _ hbl (by decide) (by first | exact xwx | exact xwy)))
   all_goals
    have bz:Below w.heap.size w wz:=by
     first
      | exact (bwb.trans (qwy.mono bwb.size)).trans (qz.mono (Nat.le_succ _))
      | exact (bwb.trans (qwx.mono bwb.size)).trans (qz.mono (Nat.le_succ _))
    have HBz:Hid (Bu (w.heap.size+1) (w.heap.size+1) wz (h2 ++ (b.pts.take (i+1)).flatMap aX)):=Qh (by rw [HFS.out,← List.append_assoc];exact Bz);clear Bz HFS cp0 cp1 cp2 cp3 cp4 cp5 cp6;go_wp2_with fail;go_roundw
    case rel=>exact ⟨i+1,by go_num,by omega,HBz,bz⟩
    case measure=>simp [intOf];omega
  have hi1:((i:Int) < (n:Int))=False:=by simp;omega
  have hin:b.pts.take i=b.pts:=List.take_of_length_le (by rw [HLN.out];exact hge);rw [hin] at HB;have hf:=HF.out;rw [HLN.out] at hf;have HFL:=Qh hf;clear hf hin hfl;go_wp2_with fail;(with_reducible refine (bM _ _ _ _ [32,125] HB.out (by rw [List.length_append];have:=HFL.out;simp only [List.length_cons,List.length_nil];omega)).mono ?_);rintro e' w2 ⟨rfl,B2,q2,_⟩;have b2:=hb.trans (q2.mono (Nat.le_succ _));have HB2:=Qh B2;clear B2;go_wp2_with fail;(with_reducible refine (lO _ _ _ _ HB2.out).mono ?_);rintro e' w3 ⟨rfl,q3⟩;have b3:=b2.trans (q3.mono (Nat.le_succ _));have hTT:h2 ++ b.pts.flatMap aX ++ [32,125]=T:=HE.out.2.symm;rw [hTT];go_wp2;go_ret;exact ⟨rfl,b3⟩
theorem lP (w:World) (A:Option Addr) (n c:Nat) (B:Option Addr) (p d:Nat) (C:Option Addr) (q e:Nat) (nm:List UInt8) (l:List ay) (k:Nat) (h:SlS (dC k) 2 w A n c l) (i j:Nat) (b:ay) (m:aR) (hb:l[i]?=some b) (hm:b.pts[j]?=some m) (hlb:b.name.length≤1000) (hlm:m.name.length≤1000) (T:List UInt8) (hT:b.name ++ 46 :: m.name=T) :
 Calls Tryz.prog 61 #[.agg #[ag nm,.slice A n c,.slice B p d,.slice C q e],.int .i64 (i:Nat),.int .i64 (j:Nat)] w (aw w (ag T)):=by
 have hil:i < n:=by rw [← h.1];exact (List.getElem?_eq_some_iff.1 hb).1
 obtain ⟨g,o,b',e1,hg,hnc,hb',hB⟩:=h.at_ hil;rw [hb] at hb';injection hb' with hb';subst hb' e1;obtain ⟨A',n',c',c0,c1,hM,_⟩:=hB;have hjl:j < n':=by rw [← hM.1];exact (List.getElem?_eq_some_iff.1 hm).1
 obtain ⟨g',o',m',e1,hg',hnc',hm',hK⟩:=hM.at_ hjl;rw [hm] at hm';injection hm' with hm';subst hm' e1;have k0:=hK.1;have f1:((i:Int) < (n:Int)):=by omega
 have f2:((j:Int) < (n':Int)):=by omega
 have hsb:=aq b.name;have hsm:=aq m.name;obtain ⟨h1,eh1⟩:∃ t,b.name ++ [46]=t:=⟨_,rfl⟩;have ah1:=bD (b.name) ([46]);rw [eh1] at ah1;have lh1:h1.length=b.name.length+1:=by rw [← eh1,List.length_append];try simp
 have kh1:(9223372036854775807 < b.name.length+1)=False:=eq_false (by omega);have zh1:=aq h1;obtain ⟨h2,eh2⟩:∃ t,h1 ++ m.name=t:=⟨_,rfl⟩;have ah2:=bD (h1) (m.name);rw [eh2] at ah2;have lh2:h2.length=h1.length+m.name.length:=by rw [← eh2,List.length_append];try simp
 have kh2:(9223372036854775807 < h1.length+m.name.length)=False:=eq_false (by omega);have zh2:=aq h2;have hTT:h2=T:=by rw [← hT,← eh2,← eh1];simp
 subst hTT;have hgl:¬ g=w.heap.size:=by omega
 have hgl':¬ g'=w.heap.size:=by omega
 have hgl2:¬ g'=w.heap.size+1:=by omega
 have hnn:((i:Int)≤(n:Int)):=by omega
 clear hb hm hM hK h hT eh1 eh2 lh1 lh2;go_in;go_wp2_with fail;go_quiet (fail);go_wp2;go_ret;exact ⟨rfl,by first | exact ((ae w).alloc Qr _).alloc (by simp) _ | exact aa (((ae w).alloc Qr _).alloc (by simp) _) _⟩
def eu (m:aR):Bool:=decide (60 < (bC m.x.q).length) || decide (60 < (bC m.y.q).length)
def gW (l:List ay):Bool:=l.any fun b=>b.pts.any eu
theorem kO {α:Type}{f:α→Bool}{l:List α}{i:Nat}{a:α}(ha:l[i]?=some a) (h:(l.take i).any f=false) (hf:f a=false):(l.take (i+1)).any f=false:=by
 rw [List.take_add_one,ha,List.any_append,h];simp [hf]
theorem mw {α:Type}{f:α→Bool}{l:List α}{i:Nat}{a:α}(ha:l[i]?=some a) (hf:f a=true):l.any f=true :=
 List.any_eq_true.2 ⟨a,List.mem_of_getElem? ha,hf⟩
theorem lQ {l:List ay}{i:Nat}{b:ay}(hb:l[i]?=some b) (h:gW (l.take i)=false) (hf:b.pts.any eu=false):gW (l.take (i+1))=false:=kO hb h hf
theorem jh {l:List ay}{i j:Nat}{b:ay}{m:aR}(hb:l[i]?=some b) (hm:b.pts[j]?=some m) (h:eu m=true):gW l=true:=mw hb (mw hm h)
theorem tq (w:World) (A:Option Addr) (n c:Nat) (B:Option Addr) (p d:Nat) (C:Option Addr) (q e:Nat) (nm:List UInt8) (l:List ay) (h:SlS (dC 40) 2 w A n c l) (htab:Tab w) (hn:n≤1000) (hps:∀ b∈l,b.pts.length≤1000) (v:Bool) (hv:gW l=v) :
 Calls Tryz.prog 63 #[.agg #[ag nm,.slice A n c,.slice B p d,.slice C q e]] w (aw w (.bool v)):=by
 have HV:=Qh hv;have HL:=Qh h.1;have HPS:=Qh hps;have hnc:=h.2.1;have H:=Qh h;have HTab:=Qh htab;clear htab;clear h hv hps;go_in;go_wp2_with fail;go_loopw [10] (fun iv wr=>∃ i:Nat,iv=.int .i64 (i:Nat)∧i≤n∧Hid (gW (l.take i)=false)∧Blk wr w.heap.size 36 #[ag nm,.slice A n c,.slice B p d,.slice C q e]∧Below w.heap.size w wr) (fun iv _=>n - (intOf iv).toNat)
 case atStart=>exact ⟨0,rfl,Nat.zero_le _,Qh rfl,ai _ _ _ (by simp),(ae w).alloc Qr _⟩
 case round =>
  obtain ⟨i,rfl,hi,HI,xL,hb⟩:=hrel;rename World=>wa;have hlL:w.heap.size < wa.heap.size:=xL.lt;have cL:=xL.cell 1;rcases Nat.lt_or_ge i n with hlt | hge
  ·have hi1:((i:Int) < (n:Int))=True:=by simp;omega
   obtain ⟨g,o,b,e1,hg,_,hbi,hB⟩:=(H.out.bd hb).at_ hlt;subst e1;obtain ⟨A',n',c',c0,c1,hM,hnm⟩:=hB;have hnc':=hM.2.1;have hn1:n'≤1000:=by rw [← hM.1];exact HPS.out b (List.mem_of_getElem? hbi)
   have HM:=Qh hM;have HBI:=Qh hbi;clear hM hbi;go_wp2_with fail;have xb:Blk (wa.alloc (.cells #[ag b.name,.slice A' n' c'] 62)) wa.heap.size 62 #[ag b.name,.slice A' n' c']:=ai _ _ _ rfl;have qb:Below wa.heap.size wa (wa.alloc (.cells #[ag b.name,.slice A' n' c'] 62)):=(ae wa).alloc Qr _;have xL1:=xL.below qb xL.lt;have hb1:=hb.trans (qb.mono hb.size);clear cL c0 c1;generalize (wa.alloc (.cells #[ag b.name,.slice A' n' c'] 62))=wx at xb qb xL1 hb1 ⊢;have cb:=xb.cell 1;go_wp2_with fail;clear cb;go_loopw [17] (fun jv w2=>∃ j:Nat,jv=.int .i64 (j:Nat)∧j≤n'∧Hid ((b.pts.take j).any eu=false)∧Below wx.heap.size wx w2) (fun jv _=>n' - (intOf jv).toNat)
   case atStart=>exact ⟨0,rfl,Nat.zero_le _,Qh rfl,ae wx⟩
   case round =>
    obtain ⟨j,rfl,hj,HJ,hb2⟩:=hrel;rename World=>wb;have xL2:=xL1.below hb2 xL1.lt;have hlL2:w.heap.size < wb.heap.size:=xL2.lt;have cL2:=xL2.cell 1;have bwb:=hb1.trans (hb2.mono hb1.size);rcases Nat.lt_or_ge j n' with hjl | hjg
    ·have hj1:((j:Int) < (n':Int))=True:=by simp;omega
     obtain ⟨g',o',m,e1,hg',_,hmj,hM⟩:=((HM.out.mk_ qb).mk_ hb2).at_ hjl;subst e1;have HMJ:=Qh hmj;obtain ⟨d0,⟨b1,A1,n1,c1,D1,m1,e1,d1,d2,d3,hQ1⟩,⟨b2,A2,n2,c2,D2,m2,e2,d4,d5,d6,hQ2⟩,hmn⟩:=hM;have d2:wb.cell? ⟨g',o'+j * 7+2,none⟩=some (.slice A1 n1 c1):=d2;have d3:wb.cell? ⟨g',o'+j * 7+3,none⟩=some (.slice D1 m1 e1):=d3;have d5:wb.cell? ⟨g',o'+j * 7+5,none⟩=some (.slice A2 n2 c2):=d5;have d6:wb.cell? ⟨g',o'+j * 7+6,none⟩=some (.slice D2 m2 e2):=d6;obtain ⟨X,hX⟩:∃ X,bC m.x.q=X:=⟨_,rfl⟩;obtain ⟨Y,hY⟩:∃ Y,bC m.y.q=Y:=⟨_,rfl⟩;have hsX:=aq X;have hsY:=aq Y;have HX:=Qh hX;have HY:=Qh hY;have HQ1:=Qh hQ1;have HQ2:=Qh hQ2;have hgb:g < wb.heap.size:=by have:=hb2.size;have:=qb.size;omega
     clear hX hY hQ1 hQ2 hmj;go_wp2_with fail;have xp:Blk (wb.alloc (.cells #[ag m.name,.bool b1,.slice A1 n1 c1,.slice D1 m1 e1,.bool b2,.slice A2 n2 c2,.slice D2 m2 e2] 67)) wb.heap.size 67 #[ag m.name,.bool b1,.slice A1 n1 c1,.slice D1 m1 e1,.bool b2,.slice A2 n2 c2,.slice D2 m2 e2]:=ai _ _ _ rfl;have qb:Below wb.heap.size wb (wb.alloc (.cells #[ag m.name,.bool b1,.slice A1 n1 c1,.slice D1 m1 e1,.bool b2,.slice A2 n2 c2,.slice D2 m2 e2] 67)):=(ae wb).alloc Qr _;have HTb:=Qh ((HTab.out.belw bwb).belw qb);have HQ1b:=Qh (HQ1.out.belw qb);have HQ2b:=Qh (HQ2.out.belw qb);have bwc:=bwb.trans (qb.mono bwb.size);have xL3:=xL2.below qb xL2.lt;have hb3:=af hb2 qb;have hwb:wb.heap.size < (wb.alloc (.cells #[ag m.name,.bool b1,.slice A1 n1 c1,.slice D1 m1 e1,.bool b2,.slice A2 n2 c2,.slice D2 m2 e2] 67)).heap.size:=xp.lt;clear HQ1 HQ2 d0 d1 d2 d3 d4 d5 d6 cL2;generalize (wb.alloc (.cells #[ag m.name,.bool b1,.slice A1 n1 c1,.slice D1 m1 e1,.bool b2,.slice A2 n2 c2,.slice D2 m2 e2] 67))=wc at xp qb HTb HQ1b HQ2b bwc hwb xL3 hb3 ⊢;(with_reducible refine (fl _ b1 A1 n1 c1 D1 m1 e1 m.x 40 HQ1b.out (by decide) (by decide) HTb.out X HX.out).mono ?_);rintro e' w3 ⟨rfl,hw3⟩;have xp3:=xp.below hw3 xp.lt;have xL3:=xL3.b hw3;have bw3:=bwc.trans (hw3.mono bwc.size);have hb3:=af hb3 hw3;by_cases hx6:60 < X.length
     ·have f6:((60:Int) < (X.length:Int))=True:=eq_true (by omega)
      have hm6:eu m=true:=by unfold eu;rw [HX.out,decide_eq_true hx6];rfl
      have hvt:v=true:=by rw [← HV.out];exact jh HBI.out HMJ.out hm6
      subst hvt;go_wp2;go_ret;exact ⟨rfl,bw3⟩
     have f6:((60:Int) < (X.length:Int))=False:=eq_false (by omega);have cp4:=xp3.cell 4;have cp5:=xp3.cell 5;have cp6:=xp3.cell 6;go_wp2_with fail;(with_reducible refine (fl _ b2 A2 n2 c2 D2 m2 e2 m.y 40 (HQ2b.out.belw hw3) (by decide) (by decide) (HTb.out.belw hw3) Y HY.out).mono ?_);rintro e' w4 ⟨rfl,hw4⟩;have xL4:=xL3.below hw4 xL3.lt;have bw4:=bw3.trans (hw4.mono bw3.size);have hb4:=af hb3 hw4;clear cp4 cp5 cp6;by_cases hy6:60 < Y.length
     ·have g6:((60:Int) < (Y.length:Int))=True:=eq_true (by omega)
      have hm6:eu m=true:=by unfold eu;rw [HX.out,HY.out,decide_eq_true hy6,Bool.or_true]
      have hvt:v=true:=by rw [← HV.out];exact jh HBI.out HMJ.out hm6
      subst hvt;go_wp2;go_ret;exact ⟨rfl,bw4⟩
     have g6:((60:Int) < (Y.length:Int))=False:=eq_false (by omega);have hm6:eu m=false:=by unfold eu;rw [HX.out,HY.out,decide_eq_false hx6,decide_eq_false hy6];rfl
     have HJ2:=Qh (kO HMJ.out HJ.out hm6);clear hm6;go_wp2_with fail;go_roundw
     case rel=>exact ⟨j+1,by go_num,by omega,HJ2,hb4⟩
     case measure=>simp [intOf];omega
    have hj1:((j:Int) < (n':Int))=False:=by simp;omega
    have hjn:b.pts.take j=b.pts:=List.take_of_length_le (by rw [HM.out.1];exact hjg);rw [hjn] at HJ;have HI2:=Qh (lQ HBI.out HI.out HJ.out);clear hjn;go_wp2_with fail;go_roundw
    case rel=>exact ⟨i+1,by go_num,by omega,HI2,xL2,bwb⟩
    case measure=>simp [intOf];omega
  have hi1:((i:Int) < (n:Int))=False:=by simp;omega
  have hin:l.take i=l:=List.take_of_length_le (by rw [HL.out];exact hge);rw [hin] at HI;have hvf:v=false:=by rw [← HV.out];exact HI.out
  subst hvf;clear hin;go_wp2;go_ret;exact ⟨rfl,hb⟩
theorem bZ (w:World) (i:Int) (n:Nat) (v:Bool) (hv:inI i n=v):Calls Tryz.prog 114 #[.int .i64 i,.int .i64 (n:Nat)] w (fun e w'=>e=.returned (.bool v)∧w'=w):=by
 subst hv;by_cases h1:0≤i
 ·by_cases h2:i < (n:Int)
  ·have e:inI i n=true:=by unfold inI;simp [h1,h2]
   rw [e];have f1:(0≤i)=True:=eq_true h1;have f2:(i < (n:Int))=True:=eq_true h2;go_in;go_wp2;go_ret;exact ⟨rfl,rfl⟩
  have e:inI i n=false:=by unfold inI;simp [h2]
  rw [e];have f1:(0≤i)=True:=eq_true h1;have f2:(i < (n:Int))=False:=eq_false h2;go_in;go_wp2;go_ret;exact ⟨rfl,rfl⟩
 have e:inI i n=false:=by unfold inI;simp [h1]
 rw [e];have f1:(0≤i)=False:=eq_false h1;go_in;go_wp2;go_ret;exact ⟨rfl,rfl⟩
theorem nH (w:World) (i:Int) (n:Nat) (v:Bool) (hv:inI i n=v):Calls Tryz.prog 114 #[.int .i64 i,.int .i64 (n:Nat)] w (aw w (.bool v)):=(bZ w i n v hv).mono fun _ _ ⟨h1,h2⟩=>⟨h1,h2 ▸ ae _⟩
theorem pM (w:World) (A:Option Addr) (n c:Nat) (l:List ay) (k:Nat) (h:SlS (dC k) 2 w A n c l) (hk:k≤300000000) (hn:n≤1000) (x:Int) (hx:aN aD [] l=x):Calls Tryz.prog 76 #[.slice A n c] w (aw w (cT x)):=by
 have hnc:=h.2.1;have HX:=Qh (bG hx);clear hx;go_in;go_wp2_with fail;go_loopw [13] (fun iv wr=>∃ i:Nat,iv=.int .i64 (i:Nat)∧i≤n∧Hid (aN aD (l.take i) (l.drop i)=x)∧Below w.heap.size w wr) (fun iv _=>n - (intOf iv).toNat)
 case atStart=>exact ⟨0,rfl,Nat.zero_le _,HX,ae w⟩
 case round =>
  clear HX;obtain ⟨i,rfl,hi,HX,hb⟩:=hrel;rename World=>wa;rcases Nat.lt_or_ge i n with hlt | hge
  ·have hi1:((i:Int) < (n:Int))=True:=by simp;omega
   obtain ⟨g,o,b,e,hg,_,hbi,hB⟩:=(h.bd hb).at_ hlt;subst e;have hstep:=bP HX.out hbi;obtain ⟨A',n',c',c0,c1,hM,hnm⟩:=hB;have HR:=Qh (h.bd hb);have HM:=Qh hM;have HS:=Qh hstep;have HN:=Qh hnm;have HB:=Qh hbi;obtain ⟨v,hv⟩:∃ v,aQ b.name=v:=⟨_,rfl⟩;have HV:=Qh hv;clear h hM hstep hnm hbi hv HX;go_wp2_with fail;(with_reducible refine (gR _ b.name HN.out v HV.out).mono ?_);rintro e w1 ⟨rfl,hb1⟩;have q1:=hb1.q1;have x1:Blk w1 wa.heap.size 62 #[ag b.name,.slice A' n' c']:=(ai _ _ _ (by simp)).below hb1 (by simp);have bw1:=hb.trans (q1.mono hb.size);clear hb1;cases v
   ·have h5:x=5:=by
     have e5:aD (l.take i) b=5:=if_pos HV.out;rcases HS.out with ⟨z,_⟩ | ⟨_,z⟩
     ·rw [e5] at z;cases z
     rw [← z,e5]
    go_wp2;go_ret;exact ⟨by rw [h5];rfl,bw1⟩
   obtain ⟨cB0,cB1⟩:=x1.c2;go_wp2_with fail;clear cB0 cB1;go_loopw [27] (fun jv w2=>∃ j:Nat,jv=.int .i64 (j:Nat)∧j≤i∧Hid (twN ((l.take j).map ay.name) b.name=false)∧Below w1.heap.size w1 w2) (fun jv _=>i - (intOf jv).toNat)
   case atStart=>exact ⟨0,rfl,Nat.zero_le _,Qh rfl,ae w1⟩
   case round =>
    obtain ⟨j,rfl,hj,HT,hb2⟩:=hrel;rename World=>w2;have x2:=x1.below hb2 x1.lt;have bw2:=bw1.trans (hb2.mono bw1.size);obtain ⟨cB0,cB1⟩:=x2.c2;have hlw:wa.heap.size < w2.heap.size:=x2.lt;rcases Nat.lt_or_ge j i with hjl | hjg
    ·have hj1:((j:Int) < (i:Int))=True:=by simp;omega
     have hjn:j < n:=by omega
     obtain ⟨a,ha,hA⟩:=((HR.out.bd q1).bd hb2).rowAt hjn;obtain ⟨A2,n2,c2,d0,d1,hM2,hn2⟩:=hA;have hgw:g < w2.heap.size:=by have:=hb2.size;have:=q1.size;omega
     clear hM2 hn2;have hne1:¬ wa.heap.size=w2.heap.size:=by omega
     have hne2:¬ g=w2.heap.size:=by omega
     have htl:=aW b.name;by_cases heq:a.name=b.name
     ·have h6:x=6:=by
       have e6:aD (l.take i) b=6:=by
        unfold aD;rw [HV.out,if_neg (by decide),if_pos (cX ha hjl heq)]
       rcases HS.out with ⟨z,_⟩ | ⟨_,z⟩
       ·rw [e6] at z;cases z
       rw [← z,e6]
      rw [heq] at d0;have hee:(b.name == b.name)=true:=by simp
      clear heq ha;go_wp2;go_ret;exact ⟨by rw [h6];rfl,bw2.alloc bw2.size _⟩
     have hta:=aW a.name;have HT2:=Qh (cA ha HT.out heq);have hee:(a.name == b.name)=false:=beq_eq_false_iff_ne.2 heq;clear heq ha HT;go_wp2_with fail;go_roundw
     case rel=>exact ⟨j+1,by go_num,by omega,HT2,hb2.alloc hb2.size _⟩
     case measure=>simp [intOf];omega
    have hj1:((j:Int) < (i:Int))=False:=by simp;omega
    obtain rfl:j=i:=by omega
    clear cB0 cB1 c0 c1;have hlen':b.pts.length=n':=HM.out.1;by_cases h8:8 < n'
    ·have f8:((8:Int) < (n':Int))=True:=eq_true (by omega)
     have h4:x=4:=by
      have e4:aD (l.take j) b=4:=by
       unfold aD;rw [HV.out,if_neg (by decide),HT.out,if_neg (by decide),if_pos (by rw [hlen'];exact h8)]
      rcases HS.out with ⟨z,_⟩ | ⟨_,z⟩
      ·rw [e4] at z;cases z
      rw [← z,e4]
     obtain ⟨cB0,cB1⟩:=x2.c2;clear hlen';go_wp2;go_ret;exact ⟨by rw [h4];rfl,bw2⟩
    have f8:((8:Int) < (n':Int))=False:=eq_false (by omega);obtain ⟨y,hy⟩:∃ y,aN aM [] b.pts=y:=⟨_,rfl⟩
    have HE:Hid (aD (l.take j) b=y):=Qh (by
     unfold aD;rw [HV.out,if_neg (by decide),HT.out,if_neg (by decide),if_neg (by rw [hlen'];exact h8)]
     exact hy)
    have HP:=Qh (bG hy);have HM2:=Qh ((HM.out.mk_ q1).mk_ hb2);obtain ⟨cB0,cB1⟩:=x2.c2;clear hy hlen' HV HT HM;go_wp2_with fail;clear cB0 cB1;go_loopw [46] (fun pv wr=>∃ p:Nat,pv=.int .i64 (p:Nat)∧p≤n'∧Hid (aN aM (b.pts.take p) (b.pts.drop p)=y)∧Below w2.heap.size w2 wr) (fun pv _=>n' - (intOf pv).toNat)
    case atStart=>exact ⟨0,rfl,Nat.zero_le _,HP,ae w2⟩
    case round =>
     clear HP;obtain ⟨p,rfl,hp,HP,hb3⟩:=hrel;rename World=>w3;have x3:=x2.below hb3 x2.lt;have bw3:=bw2.trans (hb3.mono bw2.size);have hlw3:wa.heap.size < w3.heap.size:=x3.lt;rcases Nat.lt_or_ge p n' with hpl | hpg
     ·have hp1:((p:Int) < (n':Int))=True:=by simp;omega
      obtain ⟨g',o',m,e,hg',_,hmp,hMk⟩:=(HM2.out.mk_ hb3).at_ hpl;subst e;have hst:=bP HP.out hmp;obtain ⟨d0,⟨b1,A1,n1,c1,D1,m1,e1,d1,d2,d3,hQ1⟩,⟨b2,A2,n2,c2,D2,m2,e2,d4,d5,d6,hQ2⟩,hmn⟩:=hMk;have d2:w3.cell? ⟨g',o'+p * 7+2,none⟩=some (.slice A1 n1 c1):=d2;have d3:w3.cell? ⟨g',o'+p * 7+3,none⟩=some (.slice D1 m1 e1):=d3;have d5:w3.cell? ⟨g',o'+p * 7+5,none⟩=some (.slice A2 n2 c2):=d5;have d6:w3.cell? ⟨g',o'+p * 7+6,none⟩=some (.slice D2 m2 e2):=d6;obtain ⟨cC0,cC1⟩:=x3.c2;have HST:=Qh hst;have HQ1:=Qh hQ1;have HQ2:=Qh hQ2;have HMN:=Qh hmn;have HMP:=Qh hmp;have HM3:=Qh (HM2.out.mk_ hb3);obtain ⟨v,hv⟩:∃ v,aQ m.name=v:=⟨_,rfl⟩;have HV:=Qh hv;clear hst hQ1 hQ2 hmn hmp hv HM2 HP;go_wp2_with fail;(with_reducible refine (gR _ m.name HMN.out v HV.out).mono ?_);rintro e w4 ⟨rfl,hb4⟩;have q4:=hb4.q1;have x4:Blk w4 w3.heap.size 67 #[ag m.name,.bool b1,.slice A1 n1 c1,.slice D1 m1 e1,.bool b2,.slice A2 n2 c2,.slice D2 m2 e2]:=(ai _ _ _ (by simp)).below hb4 (by simp);have x3b:=x3.below q4 x3.lt;have bw4:=bw3.trans (q4.mono bw3.size);clear hb4 d0 d1 d2 d3 d4 d5 d6 cC0 cC1
      have hxy:∀ z:Int,z≠0→aM (b.pts.take p) m=z→x=z:=fun z hz hm=>by
       have hy:y=z:=by
        rcases HST.out with ⟨u,_⟩ | ⟨_,u⟩
        ·exact absurd (hm.symm.trans u) hz
        exact u.symm.trans hm
       rcases HS.out with ⟨u,_⟩ | ⟨_,u⟩
       ·exact absurd (hy.symm.trans (HE.out.symm.trans u)) hz
       rw [← u,HE.out,hy]
      cases v
      ·have h5:x=5:=hxy 5 (by decide) (if_pos HV.out)
       clear hxy;go_wp2;go_ret;exact ⟨by rw [h5];rfl,bw4⟩
      have HXY:=Qh hxy;clear hxy;obtain ⟨cC0,cC1⟩:=x3b.c2;go_wp2_with fail;clear cC0 cC1;go_loopw [61] (fun jv wr=>∃ r:Nat,jv=.int .i64 (r:Nat)∧r≤p∧Hid (twN ((b.pts.take r).map aR.name) m.name=false)∧Below w4.heap.size w4 wr) (fun jv _=>p - (intOf jv).toNat)
      case atStart=>exact ⟨0,rfl,Nat.zero_le _,Qh rfl,ae w4⟩
      case round =>
       obtain ⟨r,rfl,hr,HT,hb5⟩:=hrel;rename World=>w5;have x5:=x4.below hb5 x4.lt;have bw5:=bw4.trans (hb5.mono bw4.size);have cD0:=x5.cell 0;have hlw5:w3.heap.size < w5.heap.size:=x5.lt;rcases Nat.lt_or_ge r p with hrl | hrg
       ·have hr1:((r:Int) < (p:Int))=True:=by simp;omega
        have hrn:r < n':=by omega
        obtain ⟨a,ha,hA⟩:=((HM3.out.mk_ q4).mk_ hb5).rowAt hrn;obtain ⟨d0,⟨b3,A3,n3,c3,D3,m3,e3,d1,d2,d3,hQ3⟩,⟨b4,A4,n4,c4,D4,m4,e4,d4,d5,d6,hQ4⟩,hmn3⟩:=hA;have hgw:g' < w5.heap.size:=by have:=hb5.size;have:=q4.size;omega
        have d2:w5.cell? ⟨g',o'+r * 7+2,none⟩=some (.slice A3 n3 c3):=d2;have d3:w5.cell? ⟨g',o'+r * 7+3,none⟩=some (.slice D3 m3 e3):=d3;have d5:w5.cell? ⟨g',o'+r * 7+5,none⟩=some (.slice A4 n4 c4):=d5;have d6:w5.cell? ⟨g',o'+r * 7+6,none⟩=some (.slice D4 m4 e4):=d6;clear hQ3 hQ4 hmn3;have hne1:¬ w3.heap.size=w5.heap.size:=by omega
        have hne2:¬ g'=w5.heap.size:=by omega
        have htl:=aW m.name;by_cases heq:a.name=m.name
        ·have h6:x=6:=HXY.out 6 (by decide) (by
          unfold aM
          rw [HV.out,if_neg (by decide),if_pos (cX ha hrl heq)])
         rw [heq] at d0;have hee:(m.name == m.name)=true:=by simp
         clear heq ha;go_wp2;go_ret;exact ⟨by rw [h6];rfl,bw5.alloc bw5.size _⟩
        have hta:=aW a.name;have HT2:=Qh (cA ha HT.out heq);have hee:(a.name == m.name)=false:=beq_eq_false_iff_ne.2 heq;clear heq ha HT;go_wp2_with fail;go_roundw
        case rel=>exact ⟨r+1,by go_num,by omega,HT2,hb5.alloc hb5.size _⟩
        case measure=>simp [intOf];omega
       have hr1:((r:Int) < (p:Int))=False:=by simp;omega
       obtain rfl:r=p:=by omega
       have cD1:=x5.cell 1;have cD2:=x5.cell 2;have cD3:=x5.cell 3;obtain ⟨v1,hv1⟩:∃ v,m.x.ok=v:=⟨_,rfl⟩;obtain ⟨v2,hv2⟩:∃ v,m.y.ok=v:=⟨_,rfl⟩;have HV1:=Qh hv1;have HV2:=Qh hv2;clear hv1 hv2;go_wp2_with fail;(with_reducible refine (dS _ b1 A1 n1 c1 D1 m1 e1 m.x k v1 ((HQ1.out.belw q4).belw hb5) hk HV1.out).mono ?_);rintro e w6 ⟨rfl,hb6⟩;have x6:=x5.below hb6 x5.lt;have bw6:=bw5.trans (hb6.mono bw5.size);clear cD0 cD1 cD2 cD3
       have hE3:v1=false∨v2=false→aM (b.pts.take r) m=3:=fun hh=>by
        unfold aM;rw [HV.out,if_neg (by decide),HT.out,if_neg (by decide),HV1.out,HV2.out];rcases hh with e | e
        ·rw [e,if_pos rfl]
        rw [e];cases v1
        ·rfl
        rfl
       have HE3:=Qh hE3;clear hE3;cases v1
       ·have h3:x=3:=HXY.out 3 (by decide) (HE3.out (.inl rfl))
        go_wp2;go_ret;exact ⟨by rw [h3];rfl,bw6⟩
       have cE4:=x6.cell 4;have cE5:=x6.cell 5;have cE6:=x6.cell 6;have hlw6:w3.heap.size < w6.heap.size:=x6.lt;go_wp2_with fail;(with_reducible refine (dS _ b2 A2 n2 c2 D2 m2 e2 m.y k v2 (((HQ2.out.belw q4).belw hb5).belw hb6) hk HV2.out).mono ?_);rintro e w7 ⟨rfl,hb7⟩;have bw7:=bw6.trans (hb7.mono bw6.size);have hb37:Below w2.heap.size w2 w7:=(((hb3.trans (q4.mono hb3.size)).trans (hb5.mono (Nat.le_trans hb3.size q4.size))).trans (hb6.mono (Nat.le_trans (Nat.le_trans hb3.size q4.size) hb5.size))).trans (hb7.mono (Nat.le_trans (Nat.le_trans (Nat.le_trans hb3.size q4.size) hb5.size) hb6.size));clear cE4 cE5 cE6;cases v2
       ·have h3:x=3:=HXY.out 3 (by decide) (HE3.out (.inr rfl))
        go_wp2;go_ret;exact ⟨by rw [h3];rfl,bw7⟩
       ·have h0:aM (b.pts.take r) m=0:=by
         unfold aM;rw [HV.out,if_neg (by decide),HT.out,if_neg (by decide),HV1.out,HV2.out];rfl
        have HP2:Hid (aN aM (b.pts.take (r+1)) (b.pts.drop (r+1))=y):=Qh (by
         rcases HST.out with ⟨_,u⟩ | ⟨u,_⟩
         ·exact u
         exact absurd h0 u)
        clear h0;go_wp2_with fail;go_roundw
        case rel=>exact ⟨r+1,by go_num,by omega,HP2,hb37⟩
        case measure=>simp [intOf];omega
     have hp1:((p:Int) < (n':Int))=False:=by simp;omega
     have hy0:y=0:=cw HP.out (by rw [HM2.out.1];exact hpg)
     have HX2:Hid (aN aD (l.take (j+1)) (l.drop (j+1))=x):=Qh (by
      rcases HS.out with ⟨_,u⟩ | ⟨u,_⟩
      ·exact u
      exact absurd (HE.out.trans hy0) u)
     clear hy0;go_wp2_with fail;go_roundw
     case rel=>exact ⟨j+1,by go_num,by omega,HX2,bw3⟩
     case measure=>simp [intOf];omega
  have hi1:((i:Int) < (n:Int))=False:=by simp;omega
  have hx0:x=0:=cw HX.out (by rw [h.1];exact hge);go_wp2;go_ret;exact ⟨by rw [hx0];rfl,hb⟩
theorem gX {i:Int}{n:Nat}(h:inI i n=true):∃ m:Nat,i=(m:Int)∧m < n:=by
 unfold inI at h;simp only [Bool.and_eq_true,decide_eq_true_eq] at h;exact ⟨i.toNat,by omega,by omega⟩
theorem nI (w:World) (A:Option Addr) (n c:Nat) (B:Option Addr) (p d:Nat) (C:Option Addr) (q e:Nat) (nm:List UInt8) (j:bc) (h:j.kind≠0∧j.kind≠1) :
 Calls Tryz.prog 113 #[.agg #[ag nm,.slice A n c,.slice B p d,.slice C q e],.agg #[ag j.name,.int .i64 j.kind,.int .i64 j.a,.int .i64 j.point,.int .i64 j.b,.int .i64 j.on,.int .i64 j.to_]] w (aw w (cT 7)):=by
 have e0:(j.kind == 0)=false:=beq_eq_false_iff_ne.2 h.1;have e1:(j.kind == 1)=false:=beq_eq_false_iff_ne.2 h.2;have e2:(j.kind != 0)=true:=bne_iff_ne.2 h.1;have e3:(j.kind != 1)=true:=bne_iff_ne.2 h.2;clear h;go_in;go_wp2;go_ret;exact ⟨rfl,(((ae w).alloc Qr _).alloc (by simp) _)⟩
theorem nJ (w:World) (A:Option Addr) (n c:Nat) (B:Option Addr) (p d:Nat) (C:Option Addr) (q e:Nat) (nm:List UInt8) (j:bc) (L:au) (k:Nat) (h:SlS (dC k) 2 w A n c L.bodies) (hk:k≤10000000) (hk1:0 < k) (hn:n≤1000) (hk0:j.kind=0) (x:Int) (hx:aJ L j=x) :
 Calls Tryz.prog 113 #[.agg #[ag nm,.slice A n c,.slice B p d,.slice C q e],.agg #[ag j.name,.int .i64 j.kind,.int .i64 j.a,.int .i64 j.point,.int .i64 j.b,.int .i64 j.on,.int .i64 j.to_]] w (aw w (cT x)):=by
 have e0:(j.kind == 0)=true:=beq_iff_eq.2 hk0;have e2:(j.kind != 0)=false:=by rw [hk0];rfl
 have hln:=h.1;have HX:=Qh hx;have HK:=Qh (show ¬ (j.kind≠0∧j.kind≠1) by rw [hk0];decide);have HK0:=Qh hk0;have H:=Qh h;have HL:=Qh hln;obtain ⟨v1,hv1⟩:∃ v,inI j.a n=v:=⟨_,rfl⟩;obtain ⟨v2,hv2⟩:∃ v,inI j.b n=v:=⟨_,rfl⟩;have HV1:=Qh hv1;have HV2:=Qh hv2;clear hx hk0 h hln hv1 hv2;go_in;go_wp2_with fail;(with_reducible refine (nH _ j.a n v1 HV1.out).mono ?_);rintro e' w1 ⟨rfl,hb1⟩;have q1:=hb1.q2;have x1:Blk w1 w.heap.size 36 #[ag nm,.slice A n c,.slice B p d,.slice C q e]:=((ai _ _ _ (by simp)).alloc _).below hb1 (by simp <;> omega);have y1:Blk w1 (w.heap.size+1) 79 #[ag j.name,.int .i64 j.kind,.int .i64 j.a,.int .i64 j.point,.int .i64 j.b,.int .i64 j.on,.int .i64 j.to_]:=(ai _ _ _ (by simp)).below hb1 (by simp);clear hb1;cases v1
 ·have h9:x=9:=by rw [← HX.out];unfold aJ;rw [if_neg HK.out,HL.out,if_pos HV1.out]
  go_wp2;go_ret;exact ⟨by rw [h9];rfl,q1⟩
 have cx1:=x1.cell 1;have cy2:=y1.cell 2;have cy4:=y1.cell 4;go_wp2_with fail;(with_reducible refine (nH _ j.b n v2 HV2.out).mono ?_);rintro e' w2 ⟨rfl,hb2⟩;have q2:=q1.trans (hb2.mono q1.size);have x2:=x1.below hb2 x1.lt;have y2:=y1.below hb2 y1.lt;clear cx1 cy2 cy4 hb2 x1 y1;cases v2
 ·have h9:x=9:=by rw [← HX.out];unfold aJ;rw [if_neg HK.out,HL.out,if_neg (by rw [HV1.out];decide),if_pos HV2.out]
  go_wp2;go_ret;exact ⟨by rw [h9];rfl,q2⟩
 obtain ⟨an,han,hal⟩:=gX HV1.out;obtain ⟨bn,hbn,hbl⟩:=gX HV2.out;have HA:=Qh han;have HBN:=Qh hbn;have cx1:=x2.cell 1;have cy1:=y2.cell 1;have cy2:=y2.cell 2;have cy3:=y2.cell 3;have cy4:=y2.cell 4;have cy5:=y2.cell 5;have cy6:=y2.cell 6;rw [han] at cy2;rw [hbn] at cy4;clear han hbn;by_cases hab:an=bn
 ·have h13:x=13:=by
   rw [← HX.out];unfold aJ;rw [if_neg HK.out,HL.out,if_neg (by rw [HV1.out];decide),if_neg (by rw [HV2.out];decide),if_pos (by rw [HA.out,HBN.out,hab])]
  subst hab;go_wp2;go_ret;exact ⟨by rw [h13];rfl,q2⟩
 have eab:((an:Int) == (bn:Int))=false:=beq_eq_false_iff_ne.2 (by omega);obtain ⟨g,o,bb,e1',hg,hnc,hbb,hBb⟩:=(H.out.bd q2).at_ hbl;subst e1';obtain ⟨ab,hab',hAb⟩:=(H.out.bd q2).rowAt hal;obtain ⟨Ab,nb,cb,k0,k1,hMb,_⟩:=hBb;obtain ⟨Aa,na,ca,l0,l1,hMa,_⟩:=hAb;have hpa:bJ L j.a=ab.pts:=by unfold bJ;rw [HA.out];show (match L.bodies[an]? with | some b=>b.pts | none=>[])=_;rw [hab']
 have hpb:bJ L j.b=bb.pts:=by unfold bJ;rw [HBN.out];show (match L.bodies[bn]? with | some b=>b.pts | none=>[])=_;rw [hbb]
 have hla:=hMa.1;have hlb:=hMb.1;have hbn2:((bn:Nat):Int) < ((n:Nat):Int):=by omega
 have han2:((an:Nat):Int) < ((n:Nat):Int):=by omega
 obtain ⟨v3,hv3⟩:∃ v,inI j.point na=v:=⟨_,rfl⟩;obtain ⟨v4,hv4⟩:∃ v,inI j.on nb=v:=⟨_,rfl⟩;have HV3:=Qh hv3;have HV4:=Qh hv4;have HMB:=Qh hMb;have HPA:=Qh hpa;have HPB:=Qh hpb;have HLA:=Qh hla;have HLB:=Qh hlb;have HAB:=Qh (show ¬ j.a=j.b by rw [HA.out,HBN.out];omega);clear hv3 hv4 hMb hMa hpa hpb hla hlb hbb hab' hab;go_wp2_with fail;cases v3
 ·have h9:x=9:=by
   rw [← HX.out];unfold aJ;rw [if_neg HK.out,HL.out,if_neg (by rw [HV1.out];decide),if_neg (by rw [HV2.out];decide),if_neg HAB.out,HPA.out,HLA.out,if_pos HV3.out]
  go_quiet ((go_at_call 114;exact Calls.quiet_of_same (bZ _ j.point na false HV3.out)));go_wp2;go_ret;exact ⟨by rw [h9];rfl,aa q2 _⟩
 cases v4
 ·have h9:x=9:=by
   rw [← HX.out];unfold aJ;rw [if_neg HK.out,HL.out,if_neg (by rw [HV1.out];decide),if_neg (by rw [HV2.out];decide),if_neg HAB.out,HPA.out,HLA.out,if_neg (by rw [HV3.out];decide),HPB.out,HLB.out,if_pos HV4.out]
  go_quiet ((go_at_call 114;first | with_reducible exact Calls.quiet_of_same (bZ _ j.point na true HV3.out) | with_reducible exact Calls.quiet_of_same (bZ _ j.on nb false HV4.out) | fail));go_wp2;go_ret;exact ⟨by rw [h9];rfl,aa q2 _⟩
 have hX2:x=(if j.kind=0 then (if j.to_=0 then 0 else 2) else if inI j.to_ nb=false then 9 else if cH bb.pts j.on j.to_=true then 8 else 0):=by
  rw [← HX.out];unfold aJ;rw [if_neg HK.out,HL.out,if_neg (by rw [HV1.out];decide),if_neg (by rw [HV2.out];decide),if_neg HAB.out,HPA.out,HLA.out,if_neg (by rw [HV3.out];decide),HPB.out,HLB.out,if_neg (by rw [HV4.out];decide)]
 have HX2:=Qh hX2;clear hX2;by_cases hto:j.to_=0
 ·have hx:x=0:=by rw [HX2.out,if_pos HK0.out,if_pos hto]
  have t0:(j.to_ == 0)=true:=beq_iff_eq.2 hto;have t1:(j.to_ != 0)=false:=by rw [hto];rfl
  clear hto;go_quiet ((go_at_call 114;first | with_reducible exact Calls.quiet_of_same (bZ _ j.point na true HV3.out) | with_reducible exact Calls.quiet_of_same (bZ _ j.on nb true HV4.out) | fail));go_wp2;go_ret;exact ⟨by rw [hx];rfl,aa q2 _⟩
 have hx:x=2:=by rw [HX2.out,if_pos HK0.out,if_neg hto]
 have t0:(j.to_ == 0)=false:=beq_eq_false_iff_ne.2 hto;have t1:(j.to_ != 0)=true:=bne_iff_ne.2 hto;clear hto;go_quiet ((go_at_call 114;first | with_reducible exact Calls.quiet_of_same (bZ _ j.point na true HV3.out) | with_reducible exact Calls.quiet_of_same (bZ _ j.on nb true HV4.out) | fail));go_wp2;go_ret;exact ⟨by rw [hx];rfl,aa q2 _⟩
theorem nK (w:World) (A:Option Addr) (n c:Nat) (B:Option Addr) (p d:Nat) (C:Option Addr) (q e:Nat) (nm:List UInt8) (j:bc) (L:au) (k:Nat) (h:SlS (dC k) 2 w A n c L.bodies) (hk:k≤10000000) (hk1:0 < k) (hn:n≤1000) (hk0:j.kind=1) (x:Int) (hx:aJ L j=x) :
 Calls Tryz.prog 113 #[.agg #[ag nm,.slice A n c,.slice B p d,.slice C q e],.agg #[ag j.name,.int .i64 j.kind,.int .i64 j.a,.int .i64 j.point,.int .i64 j.b,.int .i64 j.on,.int .i64 j.to_]] w (aw w (cT x)):=by
 have e0:(j.kind == 0)=false:=beq_eq_false_iff_ne.2 (by rw [hk0];decide);have e2:(j.kind != 0)=true:=by rw [hk0];rfl
 have e1:(j.kind == 1)=true:=beq_iff_eq.2 hk0;have e3:(j.kind != 1)=false:=by rw [hk0];rfl
 have hln:=h.1;have HX:=Qh hx;have HK:=Qh (show ¬ (j.kind≠0∧j.kind≠1) by rw [hk0];decide);have HK0:=Qh hk0;have H:=Qh h;have HL:=Qh hln;obtain ⟨v1,hv1⟩:∃ v,inI j.a n=v:=⟨_,rfl⟩;obtain ⟨v2,hv2⟩:∃ v,inI j.b n=v:=⟨_,rfl⟩;have HV1:=Qh hv1;have HV2:=Qh hv2;clear hx hk0 h hln hv1 hv2;go_in;go_wp2_with fail;(with_reducible refine (nH _ j.a n v1 HV1.out).mono ?_);rintro e' w1 ⟨rfl,hb1⟩;have q1:=hb1.q2;have x1:Blk w1 w.heap.size 36 #[ag nm,.slice A n c,.slice B p d,.slice C q e]:=((ai _ _ _ (by simp)).alloc _).below hb1 (by simp <;> omega);have y1:Blk w1 (w.heap.size+1) 79 #[ag j.name,.int .i64 j.kind,.int .i64 j.a,.int .i64 j.point,.int .i64 j.b,.int .i64 j.on,.int .i64 j.to_]:=(ai _ _ _ (by simp)).below hb1 (by simp);clear hb1;cases v1
 ·have h9:x=9:=by rw [← HX.out];unfold aJ;rw [if_neg HK.out,HL.out,if_pos HV1.out]
  go_wp2;go_ret;exact ⟨by rw [h9];rfl,q1⟩
 have cx1:=x1.cell 1;have cy2:=y1.cell 2;have cy4:=y1.cell 4;go_wp2_with fail;(with_reducible refine (nH _ j.b n v2 HV2.out).mono ?_);rintro e' w2 ⟨rfl,hb2⟩;have q2:=q1.trans (hb2.mono q1.size);have x2:=x1.below hb2 x1.lt;have y2:=y1.below hb2 y1.lt;clear cx1 cy2 cy4 hb2 x1 y1;cases v2
 ·have h9:x=9:=by rw [← HX.out];unfold aJ;rw [if_neg HK.out,HL.out,if_neg (by rw [HV1.out];decide),if_pos HV2.out]
  go_wp2;go_ret;exact ⟨by rw [h9];rfl,q2⟩
 obtain ⟨an,han,hal⟩:=gX HV1.out;obtain ⟨bn,hbn,hbl⟩:=gX HV2.out;have HA:=Qh han;have HBN:=Qh hbn;have cx1:=x2.cell 1;have cy1:=y2.cell 1;have cy2:=y2.cell 2;have cy3:=y2.cell 3;have cy4:=y2.cell 4;have cy5:=y2.cell 5;have cy6:=y2.cell 6;rw [han] at cy2;rw [hbn] at cy4;clear han hbn;by_cases hab:an=bn
 ·have h13:x=13:=by
   rw [← HX.out];unfold aJ;rw [if_neg HK.out,HL.out,if_neg (by rw [HV1.out];decide),if_neg (by rw [HV2.out];decide),if_pos (by rw [HA.out,HBN.out,hab])]
  subst hab;go_wp2;go_ret;exact ⟨by rw [h13];rfl,q2⟩
 have eab:((an:Int) == (bn:Int))=false:=beq_eq_false_iff_ne.2 (by omega);obtain ⟨g,o,bb,e1',hg,hnc,hbb,hBb⟩:=(H.out.bd q2).at_ hbl;subst e1';obtain ⟨ab,hab',hAb⟩:=(H.out.bd q2).rowAt hal;obtain ⟨Ab,nb,cb,k0,k1,hMb,_⟩:=hBb;obtain ⟨Aa,na,ca,l0,l1,hMa,_⟩:=hAb;have hpa:bJ L j.a=ab.pts:=by unfold bJ;rw [HA.out];show (match L.bodies[an]? with | some b=>b.pts | none=>[])=_;rw [hab']
 have hpb:bJ L j.b=bb.pts:=by unfold bJ;rw [HBN.out];show (match L.bodies[bn]? with | some b=>b.pts | none=>[])=_;rw [hbb]
 have hla:=hMa.1;have hlb:=hMb.1;have hbn2:((bn:Nat):Int) < ((n:Nat):Int):=by omega
 have han2:((an:Nat):Int) < ((n:Nat):Int):=by omega
 obtain ⟨v3,hv3⟩:∃ v,inI j.point na=v:=⟨_,rfl⟩;obtain ⟨v4,hv4⟩:∃ v,inI j.on nb=v:=⟨_,rfl⟩;have HV3:=Qh hv3;have HV4:=Qh hv4;have HMB:=Qh hMb;have HPA:=Qh hpa;have HPB:=Qh hpb;have HLA:=Qh hla;have HLB:=Qh hlb;have HAB:=Qh (show ¬ j.a=j.b by rw [HA.out,HBN.out];omega);clear hv3 hv4 hMb hMa hpa hpb hla hlb hbb hab' hab;go_wp2_with fail;cases v3
 ·have h9:x=9:=by
   rw [← HX.out];unfold aJ;rw [if_neg HK.out,HL.out,if_neg (by rw [HV1.out];decide),if_neg (by rw [HV2.out];decide),if_neg HAB.out,HPA.out,HLA.out,if_pos HV3.out]
  go_quiet ((go_at_call 114;exact Calls.quiet_of_same (bZ _ j.point na false HV3.out)));go_wp2;go_ret;exact ⟨by rw [h9];rfl,aa q2 _⟩
 cases v4
 ·have h9:x=9:=by
   rw [← HX.out];unfold aJ;rw [if_neg HK.out,HL.out,if_neg (by rw [HV1.out];decide),if_neg (by rw [HV2.out];decide),if_neg HAB.out,HPA.out,HLA.out,if_neg (by rw [HV3.out];decide),HPB.out,HLB.out,if_pos HV4.out]
  go_quiet ((go_at_call 114;first | with_reducible exact Calls.quiet_of_same (bZ _ j.point na true HV3.out) | with_reducible exact Calls.quiet_of_same (bZ _ j.on nb false HV4.out) | fail));go_wp2;go_ret;exact ⟨by rw [h9];rfl,aa q2 _⟩
 have hX2:x=(if j.kind=0 then (if j.to_=0 then 0 else 2) else if inI j.to_ nb=false then 9 else if cH bb.pts j.on j.to_=true then 8 else 0):=by
  rw [← HX.out];unfold aJ;rw [if_neg HK.out,HL.out,if_neg (by rw [HV1.out];decide),if_neg (by rw [HV2.out];decide),if_neg HAB.out,HPA.out,HLA.out,if_neg (by rw [HV3.out];decide),HPB.out,HLB.out,if_neg (by rw [HV4.out];decide)]
 have HX2:=Qh hX2;clear hX2;obtain ⟨v5,hv5⟩:∃ v,inI j.to_ nb=v:=⟨_,rfl⟩;have HV5:=Qh hv5;clear hv5;go_quiet ((go_at_call 114;first | with_reducible exact Calls.quiet_of_same (bZ _ j.point na true HV3.out) | with_reducible exact Calls.quiet_of_same (bZ _ j.on nb true HV4.out) | fail));go_wp2_with fail;(with_reducible refine (nH _ j.to_ nb v5 HV5.out).mono ?_);rintro e' w3 ⟨rfl,hb3⟩;have q23:Below w2.heap.size w2 w3:=af (aa (ae _) _) hb3;have q3:=q2.trans (q23.mono q2.size);have x3:=x2.below q23 x2.lt;have y3:=y2.below q23 y2.lt;clear cx1 cy1 cy2 cy3 cy4 cy5 cy6 k0 k1 l0 l1 hb3 x2 y2;cases v5
 ·have hx:x=9:=by rw [HX2.out,if_neg (by rw [HK0.out];decide),if_pos HV5.out]
  go_wp2;go_ret;exact ⟨by rw [hx];rfl,q3⟩
 obtain ⟨on,hon,honl⟩:=gX HV4.out;obtain ⟨tn,htn,htnl⟩:=gX HV5.out;have cy5:=y3.cell 5;have cy6:=y3.cell 6;rw [hon] at cy5;rw [htn] at cy6;obtain ⟨g',o',m,e2',hg',hnc',hm,hM⟩:=(HMB.out.mk_ q23).at_ honl;subst e2';obtain ⟨m',hm',hM'⟩:=(HMB.out.mk_ q23).rowAt htnl;obtain ⟨d0,⟨b1,A1,n1,c1,D1,m1,e1,d1,d2,d3,hQ1⟩,⟨b2,A2,n2,c2,D2,m2,f2,d4,d5,d6,hQ2⟩,_⟩:=hM;obtain ⟨z0,⟨b3,A3,n3,c3,D3,m3,f3,z1,z2,z3,hQ3⟩,⟨b4,A4,n4,c4,D4,m4,f4,z4,z5,z6,hQ4⟩,_⟩:=hM';have d2:w3.cell? ⟨g',o'+on * 7+2,none⟩=some (.slice A1 n1 c1):=d2;have d3:w3.cell? ⟨g',o'+on * 7+3,none⟩=some (.slice D1 m1 e1):=d3;have d5:w3.cell? ⟨g',o'+on * 7+5,none⟩=some (.slice A2 n2 c2):=d5;have d6:w3.cell? ⟨g',o'+on * 7+6,none⟩=some (.slice D2 m2 f2):=d6;have z2:w3.cell? ⟨g',o'+tn * 7+2,none⟩=some (.slice A3 n3 c3):=z2;have z3:w3.cell? ⟨g',o'+tn * 7+3,none⟩=some (.slice D3 m3 f3):=z3;have z5:w3.cell? ⟨g',o'+tn * 7+5,none⟩=some (.slice A4 n4 c4):=z5;have z6:w3.cell? ⟨g',o'+tn * 7+6,none⟩=some (.slice D4 m4 f4):=z6
 have hpe:cH bb.pts j.on j.to_=(decide (m.x.q=m'.x.q) && decide (m.y.q=m'.y.q)):=by
  unfold cH;rw [hon,htn];show (match bb.pts[on]?,bb.pts[tn]? with | some p,some q=>decide (p.x.q=q.x.q) && decide (p.y.q=q.y.q) | _,_=>false)=_;rw [hm,hm']
 have HPE:=Qh hpe;have HQ1:=Qh hQ1;have HQ2:=Qh hQ2;have HQ3:=Qh hQ3;have HQ4:=Qh hQ4;have hon2:((on:Nat):Int) < ((nb:Nat):Int):=by omega
 have htn2:((tn:Nat):Int) < ((nb:Nat):Int):=by omega
 obtain ⟨s1,hs1⟩:∃ s,fR m.x.q m'.x.q=s:=⟨_,rfl⟩;obtain ⟨s2,hs2⟩:∃ s,fR m.y.q m'.y.q=s:=⟨_,rfl⟩;have HS1:=Qh hs1;have HS2:=Qh hs2;have hl1:w.heap.size < w3.heap.size:=x3.lt;have hl2:w.heap.size+1 < w3.heap.size:=y3.lt;clear hpe hQ1 hQ2 hQ3 hQ4 hs1 hs2 hm hm' hon htn;go_wp2_with fail
 have hz:∀ z:Bool,(decide (m.x.q=m'.x.q) && decide (m.y.q=m'.y.q))=z→x=if z=true then 8 else 0:=fun z hz=>by
  rw [HX2.out,if_neg (by rw [HK0.out];decide),if_neg (by rw [HV5.out];decide),HPE.out,hz]
 have HZ:=Qh hz;clear hz;go_region
 ·go_wp2_with fail
  (with_reducible refine (gf _ b1 A1 n1 c1 D1 m1 e1 m.x.q k ?_ b3 A3 n3 c3 D3 m3 f3 m'.x.q k ?_ s1 HS1.out hk1 (by omega) hk1 (by omega)).mono ?_);(exact ((HQ1.out.qz).belw (aa ((((ae _).alloc Qr _).alloc (by simp) _)) 1)));(exact ((HQ3.out.qz).belw (aa ((((ae _).alloc Qr _).alloc (by simp) _)) 1)));rintro e' w4 ⟨rfl,hb4⟩;have xa:=(((ai _ _ _ (g:=w3.heap.size) (by simp)).alloc _).drew).below hb4 (by simp <;> omega);have xb:=((ai _ _ _ (g:=w3.heap.size+1) (by simp)).drew).below hb4 (by simp <;> omega);have q4:Below w3.heap.size w3 w4:=(aa ((((ae w3).alloc Qr _).alloc (by simp) _)) 1).trans (hb4.mono (by simp <;> omega));have q24:=q3.trans (q4.mono q3.size);have hla:w3.heap.size < w4.heap.size:=xa.lt;have hlb:w3.heap.size+1 < w4.heap.size:=xb.lt;by_cases hs1:s1=0
  ·have es:(s1 == 0)=true:=beq_iff_eq.2 hs1
   have hqx:m.x.q=m'.x.q:=bh.1 (HS1.out.trans hs1);have HQX:=Qh hqx;clear hs1 hqx;have ca4:=xa.cell 4;have ca5:=xa.cell 5;have ca6:=xa.cell 6;have cb4:=xb.cell 4;have cb5:=xb.cell 5;have cb6:=xb.cell 6;go_wp2_with fail;(with_reducible refine (gf _ b2 A2 n2 c2 D2 m2 f2 m.y.q k ?_ b4 A4 n4 c4 D4 m4 f4 m'.y.q k ?_ s2 HS2.out hk1 (by omega) hk1 (by omega)).mono ?_);(exact (HQ2.out.qz).belw q4);(exact (HQ4.out.qz).belw q4);rintro e' w5 ⟨rfl,hb5⟩;have q5:=q24.trans (hb5.mono q24.size);clear ca4 ca5 ca6 cb4 cb5 cb6;by_cases hs2:s2=0
   ·have es2:(s2 == 0)=true:=beq_iff_eq.2 hs2
    have hqy:m.y.q=m'.y.q:=bh.1 (HS2.out.trans hs2);have h8:x=8:=HZ.out true (by rw [decide_eq_true HQX.out,decide_eq_true hqy];rfl);clear hs2 hqy;go_wp2;go_ret;exact ⟨by rw [h8];rfl,q5⟩
   have es2:(s2 == 0)=false:=beq_eq_false_iff_ne.2 hs2;have h0:x=0:=HZ.out false (by rw [decide_eq_false (fun e=>hs2 (HS2.out.symm.trans (bh.2 e)))];simp);clear hs2;go_wp2;go_ret;exact ⟨by rw [h0];rfl,q5⟩
  have es:(s1 == 0)=false:=beq_eq_false_iff_ne.2 hs1;have h0:x=0:=HZ.out false (by rw [decide_eq_false (fun e=>hs1 (HS1.out.symm.trans (bh.2 e)))];rfl);clear hs1;go_wp2;go_ret;exact ⟨by rw [h0];rfl,q24⟩
 go_wp2_with fail;(with_reducible refine (gf _ b1 A1 n1 c1 D1 m1 e1 m.x.q k ?_ b3 A3 n3 c3 D3 m3 f3 m'.x.q k ?_ s1 HS1.out hk1 (by omega) hk1 (by omega)).mono ?_);(exact ((HQ1.out.qz).belw (aa ((((ae _).alloc Qr _).alloc (by simp) _)) 1)));(exact ((HQ3.out.qz).belw (aa ((((ae _).alloc Qr _).alloc (by simp) _)) 1)));rintro e' w4 ⟨rfl,hb4⟩;have xa:=(((ai _ _ _ (g:=w3.heap.size) (by simp)).alloc _).drew).below hb4 (by simp <;> omega);have xb:=((ai _ _ _ (g:=w3.heap.size+1) (by simp)).drew).below hb4 (by simp <;> omega);have q4:Below w3.heap.size w3 w4:=(aa ((((ae w3).alloc Qr _).alloc (by simp) _)) 1).trans (hb4.mono (by simp <;> omega));have q24:=q3.trans (q4.mono q3.size);have hla:w3.heap.size < w4.heap.size:=xa.lt;have hlb:w3.heap.size+1 < w4.heap.size:=xb.lt;by_cases hs1:s1=0
 ·have es:(s1 == 0)=true:=beq_iff_eq.2 hs1
  have hqx:m.x.q=m'.x.q:=bh.1 (HS1.out.trans hs1);have HQX:=Qh hqx;clear hs1 hqx;have ca4:=xa.cell 4;have ca5:=xa.cell 5;have ca6:=xa.cell 6;have cb4:=xb.cell 4;have cb5:=xb.cell 5;have cb6:=xb.cell 6;go_wp2_with fail;(with_reducible refine (gf _ b2 A2 n2 c2 D2 m2 f2 m.y.q k ?_ b4 A4 n4 c4 D4 m4 f4 m'.y.q k ?_ s2 HS2.out hk1 (by omega) hk1 (by omega)).mono ?_);(exact (HQ2.out.qz).belw q4);(exact (HQ4.out.qz).belw q4);rintro e' w5 ⟨rfl,hb5⟩;have q5:=q24.trans (hb5.mono q24.size);clear ca4 ca5 ca6 cb4 cb5 cb6;by_cases hs2:s2=0
  ·have es2:(s2 == 0)=true:=beq_iff_eq.2 hs2
   have hqy:m.y.q=m'.y.q:=bh.1 (HS2.out.trans hs2);have h8:x=8:=HZ.out true (by rw [decide_eq_true HQX.out,decide_eq_true hqy];rfl);clear hs2 hqy;go_wp2;go_ret;exact ⟨by rw [h8];rfl,q5⟩
  have es2:(s2 == 0)=false:=beq_eq_false_iff_ne.2 hs2;have h0:x=0:=HZ.out false (by rw [decide_eq_false (fun e=>hs2 (HS2.out.symm.trans (bh.2 e)))];simp);clear hs2;go_wp2;go_ret;exact ⟨by rw [h0];rfl,q5⟩
 have es:(s1 == 0)=false:=beq_eq_false_iff_ne.2 hs1;have h0:x=0:=HZ.out false (by rw [decide_eq_false (fun e=>hs1 (HS1.out.symm.trans (bh.2 e)))];rfl);clear hs1;go_wp2;go_ret;exact ⟨by rw [h0];rfl,q24⟩
theorem dJ {α:Type}{f:List α→α→Int}:∀ (l prev:List α),aN f prev l=0→∀ a∈l,∃ p,f p a=0
 | [],_,_=>by simp
 | a :: r,prev,h=>by
  unfold aN at h;split at h
  ·rename_i h0
   intro x hx;rcases List.mem_cons.1 hx with rfl | hx
   ·exact ⟨_,h0⟩
   exact dJ r _ h x hx
  rename_i h0;exact absurd h h0
theorem dw {s:List UInt8}(h:aQ s=true):s.length≤24:=by
 unfold aQ at h;simp at h;omega
def pN (m:aR):Prop:=m.name.length≤24∧m.x.ok=true∧m.y.ok=true
theorem lR {p:List aR}{m:aR}(h:aM p m=0):pN m:=by
 unfold aM at h
 repeat' split at h
 all_goals first | omega | skip
 rename_i h1 h2 h3 h4;exact ⟨dw (by simpa using h1),by simpa using h3,by simpa using h4⟩
def bV (b:ay):Prop:=b.name.length≤24∧b.pts.length≤8∧∀ m∈b.pts,pN m
theorem lS {p:List ay}{b:ay}(h:aD p b=0):bV b:=by
 unfold aD at h;split at h
 ·omega
 rename_i h1;split at h
 ·omega
 split at h
 ·omega
 rename_i h3;refine ⟨dw (by simpa using h1),by omega,fun m hm=>?_⟩;obtain ⟨q,hq⟩:=dJ _ _ h m hm;exact lR hq
def mz (bs:List ay) (j:bc):Prop:=j.name.length≤24∧∃ (a b p o:Nat) (x y:ay) (m1 m2:aR),j.a=(a:Nat)∧j.b=(b:Nat)∧j.point=(p:Nat)∧j.on=(o:Nat)∧bs[a]?=some x∧bs[b]?=some y∧x.pts[p]?=some m1∧y.pts[o]?=some m2 ∧
  ((j.kind=0∧j.to_=0)∨(j.kind=1∧∃ (t:Nat) (m3:aR),j.to_=(t:Nat)∧y.pts[t]?=some m3))
theorem fG {α:Type}{l:List α}{i:Int}(h:inI i l.length=true):∃ (n:Nat) (a:α),i=(n:Nat)∧l[n]?=some a:=by
 obtain ⟨n,h1,h2⟩:=gX h;exact ⟨n,l[n],h1,List.getElem?_eq_getElem h2⟩
theorem jV {L:au}{i:Int}{n:Nat}{b:ay}(h:i=(n:Nat)) (hb:L.bodies[n]?=some b):bJ L i=b.pts:=by
 subst h;unfold bJ;show (match L.bodies[n]? with | some b=>b.pts | none=>[])=_;rw [hb]
theorem kP {L:au}{p:List bc}{j:bc}(h:aA L p j=0):mz L.bodies j:=by
 unfold aA at h;split at h
 ·omega
 rename_i h1;split at h
 ·omega
 refine ⟨dw (by simpa using h1),?_⟩;unfold aJ at h;split at h
 ·omega
 rename_i hk;split at h
 ·omega
 rename_i ha;split at h
 ·omega
 rename_i hb;split at h
 ·omega
 split at h
 ·omega
 rename_i hp;split at h
 ·omega
 rename_i ho;obtain ⟨a,x,ea,hx⟩:=fG (by simpa using ha);obtain ⟨b,y,eb,hy⟩:=fG (by simpa using hb);rw [jV ea hx] at hp;rw [jV eb hy] at ho;obtain ⟨pn,m1,ep,hm1⟩:=fG (by simpa using hp);obtain ⟨on,m2,eo,hm2⟩:=fG (by simpa using ho);refine ⟨a,b,pn,on,x,y,m1,m2,ea,eb,ep,eo,hx,hy,hm1,hm2,?_⟩;split at h
 ·rename_i h0
  split at h
  ·rename_i ht;exact Or.inl ⟨h0,ht⟩
  omega
 rename_i h0;split at h
 ·omega
 rename_i ht;rw [jV eb hy] at ht;obtain ⟨t,m3,et,hm3⟩:=fG (by simpa using ht);exact Or.inr ⟨by omega,t,m3,et,hm3⟩
def kQ (bs:List ay) (d:bj):Prop:=d.name.length≤24∧∃ (i:Nat) (b:ay),d.body=(i:Nat)∧bs[i]?=some b
theorem jW {bs:List ay}{p:List bj}{d:bj}(h:ap bs.length p d=0):kQ bs d:=by
 unfold ap at h;split at h
 ·omega
 rename_i h1;split at h
 ·omega
 split at h
 ·omega
 rename_i hb;obtain ⟨i,b,e,hi⟩:=fG (by simpa using hb);exact ⟨dw (by simpa using h1),i,b,e,hi⟩
structure um (L:au):Prop where
  name:L.name.length≤24
  nb:L.bodies.length≤8
  nj:L.joints.length≤16
  nd:L.drivers.length≤2
  b0:0 < L.bodies.length
  body:∀ b∈L.bodies,bV b
  joint:∀ j∈L.joints,mz L.bodies j
  driver:∀ d∈L.drivers,kQ L.bodies d
theorem pO {L:au}(h:cB L=0):um L:=by
 unfold cB at h;split at h
 ·omega
 rename_i h1;split at h
 ·omega
 rename_i h2;split at h
 ·omega
 rename_i h3;split at h
 ·rename_i h4;exact absurd h h4
 rename_i h4;split at h
 ·omega
 rename_i h5;split at h
 ·rename_i h6;exact absurd h h6
 rename_i h6;split at h
 ·omega
 rename_i h7;refine ⟨dw (by simpa using h1),by omega,by omega,by omega,by omega,fun b hb=>?_,fun j hj=>?_,fun d hd=>?_⟩
 ·obtain ⟨q,hq⟩:=dJ _ _ (by simpa using h4) b hb
  exact lS hq
 ·obtain ⟨q,hq⟩:=dJ _ _ (by simpa using h6) j hj
  exact kP hq
 obtain ⟨q,hq⟩:=dJ _ _ h d hd;exact jW hq
def dK (bs:List ay) (i j:Int):List UInt8:=match bs[i.toNat]? with
  | some b=>(match b.pts[j.toNat]? with | some m=>b.name ++ 46 :: m.name | none=>[])
  | none=>[]
theorem jX {bs:List ay}{i j:Nat}{b:ay}{m:aR}(hb:bs[i]?=some b) (hm:b.pts[j]?=some m):dK bs (i:Nat) (j:Nat)=b.name ++ 46 :: m.name:=by
 unfold dK;show (match bs[i]? with | some b=>(match b.pts[j]? with | some m=>b.name ++ 46 :: m.name | none=>[]) | none=>[])=_;rw [hb];show (match b.pts[j]? with | some m=>b.name ++ 46 :: m.name | none=>[])=_;rw [hm]
def kR (bs:List ay) (i:Int):List UInt8:=match bs[i.toNat]? with | some b=>b.name | none=>[]
theorem rF {bs:List ay}{i:Nat}{b:ay}(hb:bs[i]?=some b):kR bs (i:Nat)=b.name:=by
 unfold kR;show (match bs[i]? with | some b=>b.name | none=>[])=_;rw [hb]
def cd (bs:List ay) (j:bc):List (List UInt8) :=
  if j.kind=1 then [[115,108,105,100,101],j.name,dK bs j.a j.point,dK bs j.b j.on,dK bs j.b j.to_]
  else [[112,105,110],j.name,dK bs j.a j.point,dK bs j.b j.on]
def aE (bs:List ay) (j:bc):List UInt8:=er (cd bs j) ++ [59,10]
def aL (bs:List ay) (d:bj):List UInt8:=[100,114,105,118,101,114,32] ++ d.name ++ [32] ++ kR bs d.body ++ [59,10]
def gY (nm:List UInt8):List UInt8:=[108,105,110,107,97,103,101,32] ++ nm ++ [59,10]
def bm (b:ay):List UInt8:=fk b ++ [10]
def bt (L:au):List UInt8:=gY L.name ++ L.bodies.flatMap bm ++ L.joints.flatMap (aE L.bodies) ++ L.drivers.flatMap (aL L.bodies)
def bo (L:au):Int:=if cB L≠0 then cB L else if gW L.bodies=true∨65536 < (bt L).length then 4 else 0
def cj (L:au):List UInt8:=if bo L=0 then bt L else []
theorem dD {α:Type}(f:α→List UInt8) (K:Nat):∀ (l:List α),(∀ a∈l,(f a).length≤K)→(l.flatMap f).length≤K * l.length
 | [],_=>by simp
 | a :: l,h=>by
  have h1:=h a (by simp);have h2:=dD f K l fun x hx=>h x (by simp [hx])
  simp only [List.flatMap_cons,List.length_append,List.length_cons,Nat.mul_add,Nat.mul_one];omega
theorem jY {b:ay}(hb:b.name.length≤24) (hp:b.pts.length≤8) (h:∀ m∈b.pts,dW m):(bm b).length≤30000:=by
 have:=fF h;unfold bm fk;simp only [List.length_append,List.length_cons,List.length_nil];omega
theorem fH {bs:List ay}{i j:Int}(h:∀ b∈bs,bV b):(dK bs i j).length≤49:=by
 unfold dK;split
 ·rename_i b hb
  have h1:=h b (List.mem_of_getElem? hb);split
  ·rename_i m hm
   have h2:=h1.2.2 m (List.mem_of_getElem? hm);have:=h1.1;have:=h2.1;simp only [List.length_append,List.length_cons];omega
  simp
 simp
theorem nL {bs:List ay}{i:Int}(h:∀ b∈bs,bV b):(kR bs i).length≤24:=by
 unfold kR;split
 ·rename_i b hb
  exact (h b (List.mem_of_getElem? hb)).1
 simp
theorem ew {bs:List ay}{j:bc}(h:∀ b∈bs,bV b) (hj:j.name.length≤24):(aE bs j).length≤200:=by
 have h1:=fH h (i:=j.a) (j:=j.point);have h2:=fH h (i:=j.b) (j:=j.on);have h3:=fH h (i:=j.b) (j:=j.to_);unfold aE cd;split
 ·simp only [er,List.length_append,List.length_cons,List.length_nil]
  omega
 simp only [er,List.length_append,List.length_cons,List.length_nil];omega
theorem gZ {bs:List ay}{d:bj}(h:∀ b∈bs,bV b) (hd:d.name.length≤24):(aL bs d).length≤60:=by
 have h1:=nL h (i:=d.body);unfold aL;simp only [List.length_append,List.length_cons,List.length_nil];omega
def RdW (r:RD):Prop:=Wds r.num∧Wds r.den
def MkW (m:aR):Prop:=RdW m.x∧RdW m.y
def LkW (L:au):Prop:=∀ b∈L.bodies,∀ m∈b.pts,MkW m
structure MkF (m:aR):Prop where
  name:aQ m.name=true
  x:m.x.ok=true
  y:m.y.ok=true
structure BdF (b:ay):Prop where
  name:aQ b.name=true
  pts:∀ m∈b.pts,MkF m
  dist:∀ {i j:Nat}{m m':aR},b.pts[i]?=some m→b.pts[j]?=some m'→m.name=m'.name→i=j
structure LkF (L:au):Prop where
  ok:um L
  name:aQ L.name=true
  body:∀ b∈L.bodies,BdF b
  dist:∀ {i j:Nat}{a b:ay},L.bodies[i]?=some a→L.bodies[j]?=some b→a.name=b.name→i=j
  joint:∀ j∈L.joints,aQ j.name=true
  driver:∀ d∈L.drivers,aQ d.name=true
/-! Lines. -/
def dc (h:Nat) (c:UInt8):Nat:=((h ^^^ c.toNat) * 16777619) % 4294967296
def cI (t:List UInt8):Nat:=t.foldl dc 2166136261
theorem fo (h:Nat) (c:UInt8):dc h c < 4294967296:=by unfold dc;omega
theorem jZ:∀ (t:List UInt8) (b:Nat),b < 4294967296→t.foldl dc b < 4294967296
 | [],_,h=>h
 | c :: t,b,_=>by rw [List.foldl_cons];exact jZ t _ (fo b c)
theorem gg (t:List UInt8):cI t < 4294967296:=by unfold cI;exact jZ t _ (by omega)
theorem pQ {t:List UInt8}{i:Nat}{c:UInt8}(h:t[i]?=some c) (b:Nat):(t.take (i+1)).foldl dc b=dc ((t.take i).foldl dc b) c:=by
 rw [List.take_add_one,h,List.foldl_append];generalize (t.take i).foldl dc b=x;rw [Option.toList_some,List.foldl_cons,List.foldl_nil]
def g5 (k:Nat):UInt8:=UInt8.ofNat (if k < 10 then 48+k else 87+k)
def ce:Nat→Nat→List UInt8
  | 0,_=>[]
  | k+1,n=>ce k (n / 16) ++ [g5 (n % 16)]
theorem g7:∀ k n,(ce k n).length=k
 | 0,_=>rfl
 | k+1,n=>by rw [ce,List.length_append,g7 k];rfl
theorem eH:∀ k n,ce (k+1) n=g5 (n / 16 ^ k % 16) :: ce k n
 | 0,n=>by simp [ce]
 | k+1,n=>by
  rw [ce,eH k (n / 16),ce,Nat.div_div_eq_div_mul,show 16 * 16 ^ k=16 ^ (k+1) by rw [Nat.pow_succ,Nat.mul_comm]];rfl
theorem ji (n:Nat):∀ d k,n < 16 ^ k→ce (d+k) n=List.replicate d 48 ++ ce k n
 | 0,k,_=>by simp
 | d+1,k,h=>by
  have h2:n / 16 ^ (d+k)=0:=Nat.div_eq_of_lt (Nat.lt_of_lt_of_le h (Nat.pow_le_pow_right (by decide) (by omega)));rw [show d+1+k=d+k+1 by omega,eH,h2,ji n d k h,List.replicate_succ];rfl
def fq (n:Nat):List UInt8:=ce 8 n
theorem g9 (n:Nat):(fq n).length=8:=g7 8 n
theorem pR {n k:Nat}(h:n < 16 ^ k) (hk:k≤8):List.replicate (8 - k) 48 ++ ce k n=fq n:=by
 rw [← ji n (8 - k) k h,show 8 - k+k=8 by omega];rfl
theorem jj (n:Int):IntKind.u32.wrap n=n % 4294967296:=by simp [IntKind.wrap,IntKind.signed,IntKind.bits]
theorem fI (a b:Nat) (ha:a < 4294967296) (hb:b < 4294967296):bits .xor .u32 (a:Int) (b:Int)=((a ^^^ b:Nat):Int):=by
 have hx:a ^^^ b < 2 ^ 32:=Nat.xor_lt_two_pow (by omega) (by omega)
 have h1:(BitVec.ofInt 32 (a:Int)).toNat=a:=by
  rw [BitVec.ofInt_natCast,BitVec.toNat_ofNat];exact Nat.mod_eq_of_lt (by omega)
 have h2:(BitVec.ofInt 32 (b:Int)).toNat=b:=by
  rw [BitVec.ofInt_natCast,BitVec.toNat_ofNat];exact Nat.mod_eq_of_lt (by omega)
 show IntKind.u32.wrap ((BitVec.ofInt 32 (a:Int) ^^^ BitVec.ofInt 32 (b:Int)).toNat:Int)=_;rw [BitVec.toNat_xor,h1,h2,jj];omega
theorem ix (a:Nat) (ha:a < 4294967296):bits .and .u64 (a:Int) 15=((a % 16:Nat):Int):=by
 have h1:(BitVec.ofInt 64 (a:Int)).toNat=a:=by
  rw [BitVec.ofInt_natCast,BitVec.toNat_ofNat];exact Nat.mod_eq_of_lt (by omega)
 have h3:a &&& 15=a % 16:=Nat.and_two_pow_sub_one_eq_mod a 4;show IntKind.u64.wrap ((BitVec.ofInt 64 (a:Int) &&& BitVec.ofInt 64 15).toNat:Int)=_;rw [BitVec.toNat_and,h1,show (BitVec.ofInt 64 15).toNat=15 by decide,h3];simp [IntKind.wrap,IntKind.signed,IntKind.bits];omega
theorem rG {h:Nat}(hh:h < 4294967296) (c:UInt8):bits .xor .u32 (h:Int) ((c.toNat:Nat):Int) * 16777619 % 4294967296=((dc h c:Nat):Int):=by
 have hc:c.toNat < 256:=c.toNat_lt;rw [fI _ _ hh (by omega)];unfold dc;omega
theorem kS (w:World) (s:List UInt8) (C:Nat) (t:TypeId) (fr:Nat × Nat) {j:Nat}{c:UInt8}(h:s[j]?=some c):(w.drew.alloc (.cells (bytesRow ⟨s.toArray⟩ C) t fr)).cell? ⟨w.heap.size,j,none⟩=some (.int .u8 ((c.toNat:Nat):Int)):=by
 have e:w.drew.heap.size=w.heap.size:=rfl;have hj:=(List.getElem?_eq_some_iff.1 h);rw [← e,World.cell?_alloc_mark,bytesRow_at _ _ _ (by simpa using hj.1)];simp [hj.2]
theorem fQ (w:World) (o:Obj):Below w.heap.size w (w.drew.alloc o):=(aa (ae w) 1).alloc Qr _
theorem pS (w:World) (s:List UInt8) (hs:s.length≤100000000):Calls Tryz.prog 25 #[ag s] w (aw w (.int .u32 (cI s:Nat))):=by
 have hsz:=aq s;have hcv:=fun w:World=>run_bytes_of_string (P:=Tryz.prog) w 9 47 5 ⟨s.toArray⟩ Tryz.underlying9 Tryz.underlying47 Tryz.underlying5
 go_in;go_wp2_with fail;go_loopw [3,9] (fun hv iv wr=>∃ i:Nat,hv=.int .u32 (((s.take i).foldl dc 2166136261:Nat):Int)∧iv=.int .i64 (i:Nat)∧i≤s.length∧Below w.heap.size w wr∧Hid (∀ j c,s[j]?=some c→wr.cell? ⟨w.heap.size,j,none⟩=some (.int .u8 ((c.toNat:Nat):Int)))) (fun _ iv _=>s.length - (intOf iv).toNat)
 case atStart=>exact ⟨0,rfl,rfl,Nat.zero_le _,fQ _ _,Qh fun j c h=>kS _ _ _ _ _ h⟩
 case round =>
  obtain ⟨i,rfl,rfl,hi,hb,HC⟩:=hrel;rename World=>wa;rcases Nat.lt_or_ge i s.length with hlt | hge
  ·have hi1:((i:Int) < (s.length:Int))=True:=by simp;omega
   obtain ⟨c,hc⟩:∃ c,s[i]?=some c:=⟨_,List.getElem?_eq_getElem hlt⟩;have c0:=HC.out i c hc;have hst:=pQ hc 2166136261;have hv:=rG (jZ (s.take i) 2166136261 (by omega)) c;rw [← hst] at hv;have hw8:IntKind.u32.wrap ((c.toNat:Nat):Int)=((c.toNat:Nat):Int):=by rw [jj];have:=c.toNat_lt;omega
   have HV:=Qh hv;clear hst hv hc;go_wp2_with fail;go_roundw
   case rel=>exact ⟨i+1,by rw [HV.out],by go_num,by omega,hb,HC⟩
   case measure=>simp [intOf];omega
  have hi1:((i:Int) < (s.length:Int))=False:=by simp;omega
  have hin:s.take i=s:=List.take_of_length_le hge;rw [hin];clear hin;go_wp2;go_ret;exact ⟨rfl,hb⟩
theorem rH (d:Nat) (hd:d < 16):∀ h,(⟨#[48,49,50,51,52,53,54,55,56,57,97,98,99,100,101,102,103,104,105,106,107,108,109,110,111,112,113,114,115,116,117,118,119,120,121,122]⟩:ByteArray)[d]'h=g5 d:=by
 intro h;have h9:∀ d:Fin 16,([48,49,50,51,52,53,54,55,56,57,97,98,99,100,101,102,103,104,105,106,107,108,109,110,111,112,113,114,115,116,117,118,119,120,121,122]:List UInt8)[d.1]?=some (g5 d.1):=by decide
 exact (List.getElem?_eq_some_iff.1 (h9 ⟨d,hd⟩)).2
def T64 (w:World):Prop:=w.cell? ⟨7,15,none⟩=some (.int .u8 4)
theorem T64.belw {w w':World}(h:T64 w) (hb:Below w.heap.size w w'):T64 w':=(hb.cell (p:=⟨7,15,none⟩) (World.block_lt_of_cell? w _ h)).trans h
theorem uQ (w:World) (htab:T64 w):Calls Tryz.prog 219 #[.int .u64 16] w (fun e w'=>e=.returned (.int .i64 4)∧w'=w):=by
 have h1:IntKind.u64.wrap (bits .and .u64 16 (IntKind.u64.wrap (-16)) * 285870213051353865) / 288230376151711744=15:=by decide
 have c0:w.cell? ⟨7,15,none⟩=some (.int .u8 4):=htab;clear htab;go_in;go_wp2;go_ret;exact ⟨rfl,rfl⟩
theorem uR (w:World) (htab:T64 w):Calls Tryz.prog 180 #[.int .u64 16] w (fun e w'=>e=.returned (.int .i64 4)∧w'=w):=by
 go_in;go_wp2_with fail;(with_reducible refine (uQ w htab).mono ?_);rintro e' w1 ⟨rfl,rfl⟩;go_wp2;go_ret;exact ⟨rfl,rfl⟩
theorem rI (w:World):Calls Tryz.prog 179 #[.int .i64 16] w (fun e w'=>e=.returned (.bool true)∧w'=w):=by
 have h1:bits .and .i64 16 15=0:=by decide
 go_in;go_wp2;go_ret;exact ⟨rfl,rfl⟩
def lU (D:List UInt8):Array Value:=(D.map fun c=>Value.int .u8 ((c.toNat:Nat):Int)).toArray
theorem kU {D:List UInt8}{i:Nat}{c:UInt8}(h:D[i]?=some c):(lU D)[i]?=some (.int .u8 ((c.toNat:Nat):Int)):=by unfold lU;simp [h]
theorem pT (D:List UInt8) (i:Nat) (c:UInt8):(lU D).setIfInBounds i (.int .u8 ((c.toNat:Nat):Int))=lU (D.set i c):=by unfold lU;simp [List.map_set]
theorem kV {D:List UInt8}{m:Nat}(h:m < D.length) (c:UInt8):(D.set m c).drop m=c :: D.drop (m+1):=by
 rw [List.drop_eq_getElem_cons (by simpa using h),List.getElem_set_self,List.drop_set_of_lt (Nat.lt_succ_self m)]
theorem nM (n:Nat) (h:n < 4294967296):IntKind.u64.wrap (n:Int)=(n:Int):=by simp [IntKind.wrap,IntKind.signed,IntKind.bits];omega
theorem tr (w:World) (n:Nat) (hn:n < 4294967296) (htab:T64 w):Calls Tryz.prog 140 #[.slice none 0 0,.int .u64 (n:Nat),.int .i64 16,.bool false,.bool false] w (fun e w'=>∃ k,k≤8∧n < 16 ^ k∧e=.returned (.tuple #[.slice none 0 0,ag (ce k n)])∧Below w.heap.size w w'):=by
 have HTab:=Qh htab;clear htab;go_in;have q0:Below w.heap.size w (w.alloc (.cells Tryz.zeroCells215 215)):=(ae w).alloc Qr _;have x0:Blk (w.alloc (.cells Tryz.zeroCells215 215)) w.heap.size 215 (lU (List.replicate 65 0)):=ai _ _ _ (by kernel_rfl);go_wp2_with fail;generalize (w.alloc (.cells Tryz.zeroCells215 215))=w0 at q0 x0 ⊢;(with_reducible refine (rI w0).mono ?_);rintro e' w1 ⟨rfl,rfl⟩;go_wp2_with fail;(with_reducible refine (uR w1 (HTab.out.belw q0)).mono ?_);rintro e' w2 ⟨rfl,rfl⟩;go_wp2_with fail;go_loopw [1,13] (fun uv iv wr=>∃ (k:Nat) (D:List UInt8),uv=.int .u64 ((n / 16 ^ k:Nat):Int)∧iv=.int .i64 ((65 - k:Nat):Int)∧k≤7∧D.length=65∧Hid (D.drop (65 - k)=ce k n)∧Blk wr w.heap.size 215 (lU D)∧Below w.heap.size w wr) (fun uv _ _=>(intOf uv).toNat)
 case atStart=>exact ⟨0,List.replicate 65 0,by simp,rfl,by omega,by simp,Qh (by simp [ce]),x0,q0⟩
 case round =>
  clear x0 q0;obtain ⟨k,D,rfl,rfl,hk,hD,HD,xD,hb⟩:=hrel;rename World=>wa;obtain ⟨U,hU⟩:∃ U,n / 16 ^ k=U:=⟨_,rfl⟩;obtain ⟨m,hm⟩:∃ m,64 - k=m:=⟨_,rfl⟩;have hUn:U≤n:=by rw [← hU];exact Nat.div_le_self _ _
  have hkm:((65 - k:Nat):Int)=(m:Int)+1:=by omega
  have hi1:IntKind.i64.wrap ((m:Int)+1 - 1)=(m:Int):=by rw [IntKind.wrap_i64];omega
  have hm65:m < 65:=by omega
  have hlw:w.heap.size < wa.heap.size:=xD.lt;obtain ⟨c0,hc0⟩:∃ c,D[m]?=some c:=⟨_,List.getElem?_eq_getElem (by omega)⟩;have cm:wa.cell? ⟨w.heap.size,m,none⟩=some (.int .u8 ((c0.toNat:Nat):Int)):=by rw [xD.cell m];exact kU hc0
  rw [hkm,hU];obtain ⟨d,hd⟩:∃ d,U % 16=d:=⟨_,rfl⟩;have hd16:d < 16:=by omega
  have hgt:=rH d hd16;obtain ⟨x,hx⟩:∃ x,g5 d=x:=⟨_,rfl⟩;rw [hx] at hgt;have xD2:=xD.set_at m (.int .u8 ((x.toNat:Nat):Int)) _ (pT D m x)
  have hdr:(D.set m x).drop m=ce (k+1) n:=by
   rw [kV (by omega),show m+1=65 - k by omega,HD.out,eH,hU,hd,hx]
  have fm:wa.frozen? ⟨w.heap.size,m,none⟩=false:=xD.frozen m;have HX:=Qh xD2;have HR:=Qh hdr;have HU:=Qh hU;have HM:=Qh hm;clear hdr xD2 hc0 HD hx hU hm;by_cases h16:16≤U
  ·have f16:((16:Int)≤(U:Int))=True:=eq_true (by omega)
   have hba:=ix U (by omega);rw [hd] at hba;have hd36:(d:Int) < 36:=by omega
   have hk6:k+1≤7:=by
    rcases Nat.lt_or_ge 6 k with h | h
    ·have:k=7:=by omega
     subst this;have:=HU.out;omega
    omega
   go_wp2_with fail;go_roundw
   case rel=>exact ⟨k+1,D.set m x,by rw [← HU.out,Nat.pow_succ,← Nat.div_div_eq_div_mul];simp,by congr 1;have:=HM.out;omega,hk6,by simpa using hD,by rw [show 65 - (k+1)=m by have:=HM.out;omega];exact HR,HX.out,hb.setCell Qr _⟩
   case measure=>simp [intOf];omega
  have f16:((16:Int)≤(U:Int))=False:=eq_false (by omega);obtain rfl:U=d:=by omega
  have hm66:(m:Int)≤65:=by omega
  have hne:(65=m)=False:=eq_false (by omega);obtain ⟨E,hE⟩:∃ E,(D.set m x).drop m=E:=⟨_,rfl⟩;have hlE:E.length=65 - m:=by rw [← hE,List.length_drop,List.length_set,hD]
  have xE:=HX.out;have hEk:ce (k+1) n=E:=HR.out.symm.trans hE
  have hcv:=run_convert_bytes_back (P:=Tryz.prog) (wa.setCell ⟨w.heap.size,m,none⟩ (.int .u8 ((x.toNat:Nat):Int))) 47 9 5 ⟨w.heap.size,m,none⟩ (65 - m) E Tryz.underlying47 Tryz.underlying5 Tryz.underlying9 (fun j hj=>by
   rw [show (⟨w.heap.size,m,none⟩:Addr).add j=⟨w.heap.size,m+j,none⟩ by simp [Addr.add],xE.cell (m+j)];refine kU ?_;rw [← List.getElem?_drop,hE]
   exact List.getElem?_eq_getElem hj)
  rw [hlE] at hcv
  have hnk:n < 16 ^ (k+1):=by
   have h1:=HU.out;have h2:=(Nat.div_lt_iff_lt_mul (x:=n) (y:=16) (Nat.pow_pos (n:=k) (by decide:0 < 16))).1 (by omega);rw [Nat.pow_succ,Nat.mul_comm];exact h2
  have HK:=Qh (And.intro hEk hnk);clear hE hlE hEk hnk xE;go_wp2_with fail;go_ret2;exact ⟨k+1,by omega,HK.out.2,by rw [HK.out.1];rfl,hb.setCell Qr _⟩
theorem tt (w:World) (n:Nat) (hn:n < 4294967296) (htab:T64 w):Calls Tryz.prog 103 #[.int .u64 (n:Nat),.int .i64 16] w (fun e w'=>∃ k,k≤8∧n < 16 ^ k∧e=.returned (ag (ce k n))∧Below w.heap.size w w'):=by
 go_in;go_wp2_with fail;(with_reducible refine (tr w n hn htab).mono ?_);rintro e' w1 ⟨k,hk,hnk,rfl,hb⟩;go_wp2;go_ret;exact ⟨k,hk,hnk,rfl,hb⟩
theorem un (w:World) (n:Nat) (hn:n < 4294967296) (htab:T64 w):Calls Tryz.prog 64 #[.int .u64 (n:Nat),.int .i64 16] w (fun e w'=>∃ k,k≤8∧n < 16 ^ k∧e=.returned (ag (ce k n))∧Below w.heap.size w w'):=by
 go_in;go_wp2_with fail;(with_reducible refine (tt w n hn htab).mono ?_);rintro e' w1 ⟨k,hk,hnk,rfl,hb⟩;go_wp2;go_ret;exact ⟨k,hk,hnk,rfl,hb⟩
theorem uo (w:World) (z:Int) (j:Nat) (hz:z=j) (hj:j < 1000000) (d:List UInt8) (hd:List.replicate j 48=d):Calls Tryz.prog 65 #[.string ⟨#[48]⟩,.int .i64 z] w (aw w (ag d)):=by
 have e9:∀ k,Lib.repeatL [48] k=List.replicate k 48:=fun k=>by
  induction k with
  | zero=>rfl
  | succ k ih=>rw [Lib.repeatL,ih,List.replicate_succ];rfl
 exact gG w z j d hz hj ((e9 j).trans hd)
theorem sq (w:World) (n:Nat) (hn:n < 4294967296) (htab:T64 w):Calls Tryz.prog 30 #[.int .u32 (n:Nat)] w (aw w (ag (fq n))):=by
 have hw64:=nM n hn;go_in;go_wp2_with fail;(with_reducible refine (un w n hn htab).mono ?_);rintro e' w1 ⟨k,hk,hnk,rfl,hb⟩;have hpad:=pR hnk hk;obtain ⟨X,hX⟩:∃ X,ce k n=X:=⟨_,rfl⟩;obtain ⟨Z,hZ⟩:∃ Z,List.replicate (8 - k) (48:UInt8)=Z:=⟨_,rfl⟩;have hlX:X.length=k:=by rw [← hX,g7]
 have hlZ:Z.length=8 - k:=by rw [← hZ,List.length_replicate]
 rw [hX,hZ] at hpad;rw [hX];have zX:=aq X;have zZ:=aq Z;have aZ:=iZ Z X;rw [hpad] at aZ;have kZ:(9223372036854775807 < Z.length+X.length)=False:=eq_false (by omega);have hwk:IntKind.i64.wrap (8 - (X.length:Int))=((8 - k:Nat):Int):=by rw [IntKind.wrap_i64];omega
 have HZ:=Qh hZ;clear hX hpad hnk hZ;go_wp2_with fail;(with_reducible refine (uo w1 _ (8 - k) ?_ (by omega) Z HZ.out).mono ?_);(first | rfl | omega);rintro e' w2 ⟨rfl,hb2⟩;have hb3:=af hb hb2;go_wp2;go_ret;exact ⟨rfl,hb3⟩
def cQ (n:Nat):List UInt8:=[108,105,110,107,119,111,114,107,32,49,32] ++ Lib.itoa n ++ [10]
def jk (t:List UInt8):List UInt8:=Lib.itoa t.length ++ [32] ++ fq (cI t) ++ [10] ++ t
def pkL (L:au):List UInt8:=jk (bt L)
def cD (Ls:List au):List UInt8:=cQ Ls.length ++ Ls.flatMap pkL
def cC:List au→Int
  | []=>0
  | L :: r=>if bo L=0 then cC r else bo L
def cG (Ls:List au):Int:=if 16 < Ls.length then 4 else if cC Ls≠0 then cC Ls else if 65536 < (cD Ls).length then 4 else 0
def eI (Ls:List au):List UInt8:=if cG Ls=0 then cD Ls else []
theorem hH:∀ (a b:List au),cC (a ++ b)=if cC a=0 then cC b else cC a
 | [],b=>by simp [cC]
 | L :: r,b=>by
  rw [List.cons_append,cC,cC,hH r b];by_cases h:bo L=0 <;> simp [h]
theorem pU (L:au):cC [L]=bo L:=by
 unfold cC;by_cases h:bo L=0
 ·rw [if_pos h,h];rfl
 rw [if_neg h]
theorem jl {Ls:List au}{i:Nat}{L:au}(h:Ls[i]?=some L) (h0:cC (Ls.take i)=0):cC (Ls.take (i+1))=bo L:=by
 rw [List.take_add_one,h,hH,if_pos h0];exact pU L
theorem kW {Ls:List au}{i:Nat}{L:au}(h:Ls[i]?=some L) (h0:cC (Ls.take i)=0) (hE:bo L≠0):cC Ls=bo L:=by
 have h1:=jl h h0
 conv=>lhs;rw [← List.take_append_drop (i+1) Ls]
 rw [hH,h1,if_neg hE]
theorem ia {L:au}(h:bo L=0):(bt L).length≤65536:=by
 unfold bo at h;split at h
 ·rename_i h0;exact absurd h h0
 split at h
 ·cases h
 rename_i h0;exact Nat.le_of_not_lt fun h=>h0 (.inr h)
theorem ft {n k:Nat}(h:n < 4294967296):(Lib.itoa (n:Int)).length≤11:=fj (z:=(n:Int)) (k:=1) (K:=1) (by simpa using h) (Nat.le_refl 1) (by decide)
theorem nN {t:List UInt8}(h:t.length≤65536):(jk t).length≤65600:=by
 have h1:=ft (n:=t.length) (k:=0) (by omega);have h2:=g9 (cI t);unfold jk;simp only [List.length_append,List.length_cons,List.length_nil];omega
theorem kX {Ls:List au}(h:16 < Ls.length):cG Ls=4∧eI Ls=[]:=by
 have h1:cG Ls=4:=if_pos h;exact ⟨h1,if_neg (by rw [h1];decide)⟩
theorem kY {Ls:List au}(h:¬ 16 < Ls.length) (he:cC Ls≠0):cG Ls=cC Ls∧eI Ls=[]:=by
 have h1:cG Ls=cC Ls:=by unfold cG;rw [if_neg h,if_pos he]
 exact ⟨h1,if_neg (by rw [h1];exact he)⟩
theorem lV {Ls:List au}(h:¬ 16 < Ls.length) (he:cC Ls=0) (hl:65536 < (cD Ls).length):cG Ls=4∧eI Ls=[]:=by
 have h1:cG Ls=4:=by unfold cG;rw [if_neg h,if_neg (by simpa using he),if_pos hl]
 exact ⟨h1,if_neg (by rw [h1];decide)⟩
theorem pV {Ls:List au}(h:¬ 16 < Ls.length) (he:cC Ls=0) (hl:¬ 65536 < (cD Ls).length):cG Ls=0∧eI Ls=cD Ls:=by
 have h1:cG Ls=0:=by unfold cG;rw [if_neg h,if_neg (by simpa using he),if_neg hl]
 exact ⟨h1,if_pos h1⟩
theorem mA {x:Nat}(h:x < 4294967296):x * 16777619 % 4294967296 * 899433627 % 4294967296=x:=by
 rw [Nat.mod_mul_mod,Nat.mul_assoc,show 16777619 * 899433627=1+4294967296 * 3513497 from rfl,Nat.mul_add,Nat.mul_one,Nat.mul_left_comm,Nat.add_mul_mod_self_left,Nat.mod_eq_of_lt h]
theorem k7 {h h':Nat}{c c':UInt8}(hh:h < 4294967296) (hh':h' < 4294967296) (e:dc h c=dc h' c'):h ^^^ c.toNat=h' ^^^ c'.toNat:=by
 unfold dc at e;have h1:h ^^^ c.toNat < 4294967296:=Nat.xor_lt_two_pow (n:=32) hh (Nat.lt_trans c.toNat_lt (by decide));have h2:h' ^^^ c'.toNat < 4294967296:=Nat.xor_lt_two_pow (n:=32) hh' (Nat.lt_trans c'.toNat_lt (by decide));rw [← mA h1,← mA h2,e]
theorem ss {a b c:Nat}(e:a ^^^ c=b ^^^ c):a=b:=by
 have h:(a ^^^ c) ^^^ c=(b ^^^ c) ^^^ c:=by rw [e]
 rwa [Nat.xor_assoc,Nat.xor_self,Nat.xor_zero,Nat.xor_assoc,Nat.xor_self,Nat.xor_zero] at h
theorem nO {h h':Nat}{c:UInt8}(hh:h < 4294967296) (hh':h' < 4294967296) (e:dc h c=dc h' c):h=h':=ss (k7 hh hh' e)
theorem lW {h:Nat}{c c':UInt8}(hh:h < 4294967296) (e:dc h c=dc h c'):c=c':=UInt8.toNat.inj (ss (c:=h) (by rw [Nat.xor_comm,k7 hh hh e,Nat.xor_comm]))
theorem k9:∀ (l:List UInt8) {a b:Nat},a < 4294967296→b < 4294967296→l.foldl dc a=l.foldl dc b→a=b
 | [],_,_,_,_,e=>e
 | c :: l,a,b,ha,hb,e=>by
  rw [List.foldl_cons,List.foldl_cons] at e;exact nO ha hb (k9 l (fo a c) (fo b c) e)
theorem rJ {t:List UInt8}{k:Nat}(hk:k < t.length) {c:UInt8}(hc:c≠t[k]):cI (t.set k c)≠cI t:=by
 intro e;have h1:t=t.take k ++ t[k] :: t.drop (k+1):=by rw [← List.drop_eq_getElem_cons hk,List.take_append_drop]
 have h2:t.set k c=t.take k ++ c :: t.drop (k+1):=by rw [List.set_eq_take_append_cons_drop,if_pos hk]
 rw [h2] at e;unfold cI at e
 conv at e=>rhs;rw [h1]
 rw [List.foldl_append,List.foldl_append,List.foldl_cons,List.foldl_cons] at e;have hb:(t.take k).foldl dc 2166136261 < 4294967296:=jZ _ _ (by omega);exact hc (lW hb (k9 _ (fo _ _) (fo _ _) e))
theorem pW:∀ {a b:Nat},a < 16→b < 16→g5 a=g5 b→a=b:=by
 intro a b ha hb;have h:∀ a b:Fin 16,g5 a.1=g5 b.1→a=b:=by decide
 intro e;exact congrArg Fin.val (h ⟨a,ha⟩ ⟨b,hb⟩ e)
theorem la:∀ k {a b:Nat},ce k a=ce k b→a % 16 ^ k=b % 16 ^ k
 | 0,a,b,_=>by simp [Nat.mod_one]
 | k+1,a,b,e=>by
  rw [ce,ce] at e;obtain ⟨h1,h2⟩:=List.append_inj' e rfl;have h3:=la k h1;injection h2 with h2 _;have h4:=pW (Nat.mod_lt _ (by decide)) (Nat.mod_lt _ (by decide)) h2;rw [Nat.pow_succ,Nat.mul_comm,Nat.mod_mul,Nat.mod_mul,h3,h4]
theorem pX {a b:Nat}(ha:a < 4294967296) (hb:b < 4294967296) (e:fq a=fq b):a=b:=by
 have h:=la 8 e;rw [Nat.mod_eq_of_lt (by omega),Nat.mod_eq_of_lt (by omega)] at h;exact h
def lX:List UInt8:=[48,49,50,51,52,53,54,55,56,57,97,98,99,100,101,102]
theorem pY {k:Nat}(h:k < 16):lX.contains (g5 k)=true:=by
 have h9:∀ k:Fin 16,lX.contains (g5 k.1)=true:=by decide
 exact h9 ⟨k,h⟩
theorem lb:∀ k n,∀ c∈ce k n,lX.contains c=true
 | 0,_,c,h=>by simp [ce] at h
 | k+1,n,c,h=>by
  rw [ce] at h;rcases List.mem_append.1 h with h | h
  ·exact lb k _ c h
  simp at h;rw [h];exact pY (Nat.mod_lt _ (by decide))
theorem lc (n:Nat):∀ c∈fq n,lX.contains c=true:=lb 8 n
theorem rK {l cs:List UInt8}(h:∀ c∈l,cs.contains c=true):Lib.trimS l cs=[]:=by
 unfold Lib.trimS Lib.trimLeftS Lib.trimRightS;rw [em,List.all_reverse,em.2 (by rw [List.all_reverse];exact List.all_eq_true.2 h)];rfl
theorem st:∀ k u,u < 10 ^ (k+1)→Lib.nDigits u≤k+1
 | 0,u,h=>by rw [Lib.nDigits_small (by omega)];omega
 | k+1,u,h=>by
  by_cases h1:u < 10
  ·rw [Lib.nDigits_small h1];omega
  rw [Lib.nDigits_big h1];have:=st k (u / 10) (by rw [Nat.pow_succ] at h;omega);omega
theorem rL {n:Nat}{c:UInt8}(hc:lX.contains c=false):c ∉ fq n:=fun h=>by rw [lc n c h] at hc;cases hc
theorem lY {n:Nat}{c:UInt8}(hc:bA c=false):c ∉ Lib.itoa (n:Int):=by
 intro h;rw [Lib.itoa_nonneg] at h;rw [List.all_eq_true.1 (mm n).1 c h] at hc;cases hc
theorem rM (n:Nat):(Lib.itoa (n:Int)).all bA=true∧aP (Lib.itoa (n:Int))=n:=by
 rw [Lib.itoa_nonneg];exact mm n
theorem rN (n:Nat):Lib.itoa (n:Int)≠[]:=by
 rw [Lib.itoa_nonneg];intro h;have h9:(Lib.decDigits n).length=0:=by rw [h];rfl
 rw [Lib.decDigits_length] at h9;have:=Lib.nDigits_pos n;omega
def bK (m h:Nat):List UInt8:=Lib.itoa (m:Int) ++ [32] ++ fq h
theorem pZ (t:List UInt8):jk t=bK t.length (cI t) ++ 10 :: t:=by unfold jk bK;simp
theorem jm (m h:Nat):(10:UInt8) ∉ bK m h:=by
 unfold bK;intro hm;rcases List.mem_append.1 hm with hm | hm
 ·rcases List.mem_append.1 hm with hm | hm
  ·exact lY (by decide) hm
  simp at hm
 exact rL (by decide) hm
def cY (n:Nat):List UInt8:=[108,105,110,107,119,111,114,107,32,49,32] ++ Lib.itoa (n:Int)
theorem jn (n:Nat) (r:List UInt8):cQ n ++ r=cY n ++ 10 :: r:=by unfold cQ cY;simp
theorem ib (n:Nat):(10:UInt8) ∉ cY n:=by
 unfold cY;intro hm;rcases List.mem_append.1 hm with hm | hm
 ·revert hm;decide
 exact lY (by decide) hm
def gdH (m h:Nat):List UInt8:=cQ 1 ++ bK m h ++ [10]
theorem p4 (m h:Nat) (t:List UInt8):cQ 1 ++ (bK m h ++ 10 :: t)=gdH m h ++ t:=by unfold gdH;simp
theorem rO (L:au):cD [L]=gdH (bt L).length (cI (bt L)) ++ bt L:=by
 rw [← p4,← pZ];unfold cD pkL;simp
theorem p6 (m h:Nat):(gdH m h).count 10=2∧∀ i,i < (gdH m h).length→((gdH m h).take i).count 10≤1:=by
 have e:gdH m h=(cY 1 ++ 10 :: bK m h) ++ [10]:=by unfold gdH;rw [jn]
 have h1:(cY 1 ++ 10 :: bK m h).count 10=1:=by
  rw [List.count_append,List.count_cons,List.count_eq_zero.2 (ib 1),List.count_eq_zero.2 (jm m h)];rfl
 refine ⟨by rw [e,List.count_append,h1];rfl,fun i hi=>?_⟩;rw [e,List.length_append] at hi;rw [e,List.take_append_of_le_length (by simp at hi ⊢;omega)];exact Nat.le_trans ((List.take_sublist i (cY 1 ++ 10 :: bK m h)).count_le (10:UInt8)) (Nat.le_of_eq h1)
theorem lZ {t:List UInt8}{i:Nat}{c:UInt8}(h:t[i]?=some c):(t.take (i+1)).count 10=(t.take i).count 10+if c=10 then 1 else 0:=by
 rw [List.take_add_one,h,List.count_append,Option.toList_some,List.count_singleton];by_cases hc:c=10
 ·subst hc;simp
 rw [if_neg hc,if_neg (by simpa using hc)]
theorem tu {a b:UInt8}(h:b≠0):a ^^^ b≠a:=by
 intro e;apply h;have h2:a ^^^ (a ^^^ b)=a ^^^ a:=by rw [e]
 rwa [← UInt8.xor_assoc,UInt8.xor_self,UInt8.zero_xor] at h2
theorem nP (L:au):bt L≠[]:=by
 unfold bt gY;simp
end Go.Proofs.YtfilnhompchciaaGreatDoor
