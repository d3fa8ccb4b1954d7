/- Part LM4: lemmas and walks that the claim rests on. No claim is made here. -/
import Derived.Deep.AppendLies
import Derived.BigQuiet
import Derived.Deep.RegionHeld3
import Derived.Deep.DrawnRows
import Derived.Shelf.Strings.Builder1
import Derived.Deep.DeepCutAuto
import Derived.Test.YtfilnhompchciaaGreatDoorLM3
set_option linter.unusedVariables false
set_option maxHeartbeats 8000000
set_option maxRecDepth 100000
/- Walks: tokens: the first one. -/
namespace Go.Proofs.YtfilnhompchciaaGreatDoor
open Go Go.RowKit Bn
attribute [local go_sem ↓] Go.wp_at_zero Go.wp_at_succ
theorem tD (s:List UInt8) (i:Nat):oj (s.drop i)=(bW (atB s i) || atB s i == 95 || atB s i == 46 || atB s i == 47):=by
 rcases Nat.lt_or_ge i s.length with h | h
 ·rw [bG h];rfl
 rw [List.drop_eq_nil_of_le h,fd h];rfl
def zH:nh→Value
  | .ok k n=>.tuple #[.int .i64 (k:Nat),.int .i64 (n:Nat),.nilIface]
  | .err x=>.tuple #[.int .i64 0,.int .i64 0,.iface 49 (.int .i64 (x:Nat))]
def AO (i:Nat):nh→Value
  | .ok k n=>.tuple #[.int .i64 (k:Nat),.int .i64 ((i:Int)+(n:Nat)),.int .i64 0]
  | .err x=>.tuple #[.int .i64 0,.int .i64 0,.int .i64 (x:Nat)]
theorem kx {s:List UInt8}{i:Nat}{f:nh}(hi:i < s.length) (hf:aV (s.drop i)=f):∃ c,atB s i=c∧∃ n,bl (s.drop i)=n∧∃ m,bC (s.drop i)=m∧n≤s.length - i∧m≤s.length - i ∧
 ((cQ c=true∧n=0∧m=0∧f=.ok 2 1)∨(cQ c=false∧24 < n∧f=.err 5)∨(cQ c=false∧0 < n∧n≤24∧f=.ok 0 n) ∨
  (cQ c=false∧n=0∧m=0∧f=.err 2)∨(cQ c=false∧n=0∧60 < m∧f=.err 4) ∨
  (cQ c=false∧n=0∧0 < m∧m≤60∧∃ d,atB s (i+m)=d∧((bW d=true∧f=.err 2)∨(bW d=false∧d=95∧f=.err 2)∨(bW d=false∧d=46∧f=.err 2)∨(bW d=false∧d=47∧f=.err 2) ∨
   (bW d=false∧d≠95∧d≠46∧d≠47∧f=.ok 1 m)))):=by
 have h1:=jH (s.drop i);have h2:=oo (s.drop i);rw [List.length_drop] at h1 h2;refine ⟨_,rfl,_,rfl,_,rfl,h1,h2,?_⟩;subst hf;by_cases hs:cQ (atB s i)=true
 ·left
  have e0:bl (s.drop i)=0:=lD (by
   rw [kf] at hs
   rw [ke];simp at hs ⊢;omega)
  have e1:bC (s.drop i)=0:=by
   obtain ⟨m,k,hm,hk,hc⟩:=iu (s:=s) (i:=i) rfl;rw [kf] at hs;rcases hm with ⟨_,h⟩ | ⟨rfl,h⟩
   ·rw [h] at hs;exact absurd hs (by decide)
   rcases hc with ⟨_,h⟩ | ⟨h,_⟩
   ·exact h
   exfalso;rw [Nat.add_zero,bG hi] at hk;unfold cg at hk;rw [List.takeWhile_cons,if_neg (by rw [lC];simp at hs ⊢;omega)] at hk;simp at hk;omega
  refine ⟨hs,e0,e1,?_⟩;rw [bG hi,aV,if_pos hs]
 have hs:cQ (atB s i)=false:=by simpa using hs
 right
 have e:aV (s.drop i)=(if 0 < bl (s.drop i) then (if 24 < bl (s.drop i) then .err 5 else .ok 0 (bl (s.drop i)))
  else if bC (s.drop i)=0 then .err 2 else if 60 < bC (s.drop i) then .err 4 else if oj ((s.drop i).drop (bC (s.drop i))) then .err 2 else .ok 1 (bC (s.drop i))):=by
  conv=>lhs;rw [bG hi]
  rw [aV,if_neg (by rw [hs];decide),← bG hi]
 rw [e,List.drop_drop];by_cases a:0 < bl (s.drop i)
 ·rw [if_pos a]
  by_cases b:24 < bl (s.drop i)
  ·rw [if_pos b];exact .inl ⟨hs,b,rfl⟩
  rw [if_neg b];exact .inr (.inl ⟨hs,a,by omega,rfl⟩)
 rw [if_neg a];have a:bl (s.drop i)=0:=by omega
 right;right;by_cases b:bC (s.drop i)=0
 ·rw [if_pos b];exact .inl ⟨hs,a,b,rfl⟩
 rw [if_neg b];by_cases b2:60 < bC (s.drop i)
 ·rw [if_pos b2];exact .inr (.inl ⟨hs,a,b2,rfl⟩)
 rw [if_neg b2];refine .inr (.inr ⟨hs,a,by omega,by omega,_,rfl,?_⟩);rw [tD];generalize atB s (i+bC (s.drop i))=d;cases hl:bW d
 ·by_cases c1:d=95
  ·subst c1;exact .inr (.inl ⟨rfl,rfl,rfl⟩)
  by_cases c2:d=46
  ·subst c2;exact .inr (.inr (.inl ⟨rfl,rfl,rfl⟩))
  by_cases c3:d=47
  ·subst c3;exact .inr (.inr (.inr (.inl ⟨rfl,rfl,rfl⟩)))
  refine .inr (.inr (.inr (.inr ⟨rfl,c1,c2,c3,?_⟩)));rw [beq_eq_false_iff_ne.2 c1,beq_eq_false_iff_ne.2 c2,beq_eq_false_iff_ne.2 c3];rfl
 exact .inl ⟨rfl,rfl⟩
theorem gR (w:World) (c:UInt8) (v:Bool) (hv:cQ c=v):Calls Tryz.prog 107 #[.string ⟨#[123,125,59,46]⟩,.int .u8 (c.toNat:Nat)] w (fun e w'=>∃ x:Int,decide (0≤x)=v∧e=.returned (.int .i64 x)∧Below w.heap.size w w'):=by
 refine (Tryz.strings_IndexByte ⟨#[123,125,59,46]⟩ (c.toNat:Nat) w).mono fun e w' ⟨he,hw⟩=>⟨_,?_,he,hw ▸ aa _⟩
 have ec:((c.toNat:Nat):Int).toNat.toUInt8=c:=by simp
 rw [ec,← hv];unfold cQ;show decide (0≤Lib.indexByte [123,125,59,46] c)=_;unfold Lib.indexByte Lib.indexByte Lib.indexByte Lib.indexByte Lib.indexByte;by_cases h1:c=123
 ·subst h1;rfl
 by_cases h2:c=125
 ·subst h2;rfl
 by_cases h3:c=59
 ·subst h3;rfl
 by_cases h4:c=46
 ·subst h4;rfl
 have g:∀ {a:UInt8},c≠a→(a == c)=false:=fun h=>beq_eq_false_iff_ne.2 (fun e=>h e.symm)
 rw [beq_eq_false_iff_ne.2 h1,beq_eq_false_iff_ne.2 h2,beq_eq_false_iff_ne.2 h3,beq_eq_false_iff_ne.2 h4];simp [g h1,g h2,g h3,g h4]
theorem rS (w:World) (s:List UInt8) (hp:0 < s.length) (hs:s.length < 4611686018427387904) (f:nh) (hf:aV s=f):Calls Tryz.prog 69 #[ae s] w (av w (zH f)):=by
 have hszs:=bX s;obtain ⟨c,hc0,n,hwn,m,hnm,hnl,hml,hcs⟩:=kx (s:=s) (i:=0) hp hf;clear hf;have hwn:bl s=n:=hwn;have hnm:bC s=m:=hnm;have hget0:∀ h,(⟨s.toArray⟩:ByteArray)[0]'h=c:=fun h=>by rw [← hc0];exact (cw hp).symm
 have hp1:(0:Int) < (s.length:Int):=by omega
 clear hc0;rcases hcs with ⟨hsg,hn0,hm0,rfl⟩ | ⟨hsg,hn1,rfl⟩ | ⟨hsg,hn1,hn2,rfl⟩ | ⟨hsg,hn0,hm0,rfl⟩ | ⟨hsg,hn0,hm1,rfl⟩ | ⟨hsg,hn0,hm1,hm2,d,hd,hc⟩
 ·go_in
  go_wp2_with fail;(with_reducible refine (gR _ c _ hsg).mono ?_);rintro e w1 ⟨x,hx,rfl,hb1⟩;have hx9:(0≤x)=True:=by simpa using hx
  clear hx;have bw1:=hb1;go_wp2_with fail;refine bodyPost_ret (v:=.tuple #[.int .i64 2,.int .i64 1,.nilIface]) (by simp [results,Tryz.results69,go_sem, *] <;> trivial) rfl ?_;exact ⟨rfl,bw1⟩
 ·have hgt:((0:Int) < (n:Int))=True:=by simp;omega
  have hgt2:((24:Int) < (n:Int))=True:=by simp;omega
  go_in;go_wp2_with fail;(with_reducible refine (gR _ c _ hsg).mono ?_);rintro e w1 ⟨x,hx,rfl,hb1⟩;have hx9:(0≤x)=False:=by simpa using hx
  clear hx;have bw1:=hb1;go_wp2_with fail;(with_reducible refine (dD _ (s) hs (n) hwn).mono ?_);rintro e w2 ⟨rfl,q2⟩;have bw2:=bw1.trans (q2.mono bw1.size);have lw2:=q2.size;clear q2;go_wp2_with fail;refine bodyPost_ret (v:=.tuple #[.int .i64 0,.int .i64 0,.iface 49 (.int .i64 5)]) (by simp [results,Tryz.results69,go_sem, *] <;> trivial) rfl ?_;exact ⟨rfl,bw2⟩
 ·have hgt:((0:Int) < (n:Int))=True:=by simp;omega
  have hgt2:((24:Int) < (n:Int))=False:=by simp;omega
  go_in;go_wp2_with fail;(with_reducible refine (gR _ c _ hsg).mono ?_);rintro e w1 ⟨x,hx,rfl,hb1⟩;have hx9:(0≤x)=False:=by simpa using hx
  clear hx;have bw1:=hb1;go_wp2_with fail;(with_reducible refine (dD _ (s) hs (n) hwn).mono ?_);rintro e w2 ⟨rfl,q2⟩;have bw2:=bw1.trans (q2.mono bw1.size);have lw2:=q2.size;clear q2;go_wp2_with fail;refine bodyPost_ret (v:=.tuple #[.int .i64 0,.int .i64 n,.nilIface]) (by simp [results,Tryz.results69,go_sem, *] <;> trivial) rfl ?_;exact ⟨rfl,bw2⟩
 ·subst hn0
  subst hm0;go_in;go_wp2_with fail;(with_reducible refine (gR _ c _ hsg).mono ?_);rintro e w1 ⟨x,hx,rfl,hb1⟩;have hx9:(0≤x)=False:=by simpa using hx
  clear hx;have bw1:=hb1;go_wp2_with fail;(with_reducible refine (dD _ (s) hs (0) hwn).mono ?_);rintro e w2 ⟨rfl,q2⟩;have bw2:=bw1.trans (q2.mono bw1.size);have lw2:=q2.size;clear q2;go_wp2_with fail;(with_reducible refine (cW _ (s) hs (0) hnm).mono ?_);rintro e w3 ⟨rfl,q3⟩;have bw3:=bw2.trans (q3.mono bw2.size);have lw3:=q3.size;clear q3 bw2;go_wp2_with fail;refine bodyPost_ret (v:=.tuple #[.int .i64 0,.int .i64 0,.iface 49 (.int .i64 2)]) (by simp [results,Tryz.results69,go_sem, *] <;> trivial) rfl ?_;exact ⟨rfl,bw3⟩
 ·subst hn0
  have hm9:((m:Int) == 0)=false:=by simp;omega
  have hg2:((60:Int) < (m:Int))=True:=by simp;omega
  go_in;go_wp2_with fail;(with_reducible refine (gR _ c _ hsg).mono ?_);rintro e w1 ⟨x,hx,rfl,hb1⟩;have hx9:(0≤x)=False:=by simpa using hx
  clear hx;have bw1:=hb1;go_wp2_with fail;(with_reducible refine (dD _ (s) hs (0) hwn).mono ?_);rintro e w2 ⟨rfl,q2⟩;have bw2:=bw1.trans (q2.mono bw1.size);have lw2:=q2.size;clear q2;go_wp2_with fail;(with_reducible refine (cW _ (s) hs (m) hnm).mono ?_);rintro e w3 ⟨rfl,q3⟩;have bw3:=bw2.trans (q3.mono bw2.size);have lw3:=q3.size;clear q3 bw2;go_wp2_with fail;refine bodyPost_ret (v:=.tuple #[.int .i64 0,.int .i64 0,.iface 49 (.int .i64 4)]) (by simp [results,Tryz.results69,go_sem, *] <;> trivial) rfl ?_;exact ⟨rfl,bw3⟩
 subst hn0;have hm9:((m:Int) == 0)=false:=by simp;omega
 have hg2:((60:Int) < (m:Int))=False:=by simp;omega
 rw [Nat.zero_add] at hd;rcases Nat.lt_or_ge m s.length with hl9 | hl9
 ·have hget:∀ h,(⟨s.toArray⟩:ByteArray)[m]'h=d:=fun h=>by rw [← hd];exact (cw hl9).symm
  have hml1:((m:Int) < (s.length:Int))=True:=by simp;omega
  have hml2:m < s.length:=hl9;clear hd;rcases hc with ⟨hl,rfl⟩ | ⟨hl,h95,rfl⟩ | ⟨hl,h46,rfl⟩ | ⟨hl,h47,rfl⟩ | ⟨hl,h95,h46,h47,rfl⟩
  ·skip
   go_in;go_wp2_with fail;(with_reducible refine (gR _ c _ hsg).mono ?_);rintro e w1 ⟨x,hx,rfl,hb1⟩;have hx9:(0≤x)=False:=by simpa using hx
   clear hx;have bw1:=hb1;go_wp2_with fail;(with_reducible refine (dD _ (s) hs (0) hwn).mono ?_);rintro e w2 ⟨rfl,q2⟩;have bw2:=bw1.trans (q2.mono bw1.size);have lw2:=q2.size;clear q2;go_wp2_with fail;(with_reducible refine (cW _ (s) hs (m) hnm).mono ?_);rintro e w3 ⟨rfl,q3⟩;have bw3:=bw2.trans (q3.mono bw2.size);have lw3:=q3.size;clear q3 bw2;go_wp2_with fail;(with_reducible refine (cU _ d true hl).mono ?_);rintro e w4 ⟨rfl,q4⟩;have bw4:=bw3.trans (q4.mono bw3.size);have lw4:=q4.size;clear q4 bw3;go_wp2_with fail;refine bodyPost_ret (v:=.tuple #[.int .i64 0,.int .i64 0,.iface 49 (.int .i64 2)]) (by simp [results,Tryz.results69,go_sem, *] <;> trivial) rfl ?_;exact ⟨rfl,bw4⟩
  ·have e95:(((d.toNat:Nat):Int) == 95)=true:=(am d 95).trans (by simp [h95])
   clear h95;go_in;go_wp2_with fail;(with_reducible refine (gR _ c _ hsg).mono ?_);rintro e w1 ⟨x,hx,rfl,hb1⟩;have hx9:(0≤x)=False:=by simpa using hx
   clear hx;have bw1:=hb1;go_wp2_with fail;(with_reducible refine (dD _ (s) hs (0) hwn).mono ?_);rintro e w2 ⟨rfl,q2⟩;have bw2:=bw1.trans (q2.mono bw1.size);have lw2:=q2.size;clear q2;go_wp2_with fail;(with_reducible refine (cW _ (s) hs (m) hnm).mono ?_);rintro e w3 ⟨rfl,q3⟩;have bw3:=bw2.trans (q3.mono bw2.size);have lw3:=q3.size;clear q3 bw2;go_wp2_with fail;(with_reducible refine (cU _ d false hl).mono ?_);rintro e w4 ⟨rfl,q4⟩;have bw4:=bw3.trans (q4.mono bw3.size);have lw4:=q4.size;clear q4 bw3;go_wp2_with fail;refine bodyPost_ret (v:=.tuple #[.int .i64 0,.int .i64 0,.iface 49 (.int .i64 2)]) (by simp [results,Tryz.results69,go_sem, *] <;> trivial) rfl ?_;exact ⟨rfl,bw4⟩
  ·have e95:(((d.toNat:Nat):Int) == 95)=false:=(am d 95).trans (by simp [h46])
   have e46:(((d.toNat:Nat):Int) == 46)=true:=(am d 46).trans (by simp [h46]);clear h46;go_in;go_wp2_with fail;(with_reducible refine (gR _ c _ hsg).mono ?_);rintro e w1 ⟨x,hx,rfl,hb1⟩;have hx9:(0≤x)=False:=by simpa using hx
   clear hx;have bw1:=hb1;go_wp2_with fail;(with_reducible refine (dD _ (s) hs (0) hwn).mono ?_);rintro e w2 ⟨rfl,q2⟩;have bw2:=bw1.trans (q2.mono bw1.size);have lw2:=q2.size;clear q2;go_wp2_with fail;(with_reducible refine (cW _ (s) hs (m) hnm).mono ?_);rintro e w3 ⟨rfl,q3⟩;have bw3:=bw2.trans (q3.mono bw2.size);have lw3:=q3.size;clear q3 bw2;go_wp2_with fail;(with_reducible refine (cU _ d false hl).mono ?_);rintro e w4 ⟨rfl,q4⟩;have bw4:=bw3.trans (q4.mono bw3.size);have lw4:=q4.size;clear q4 bw3;go_wp2_with fail;refine bodyPost_ret (v:=.tuple #[.int .i64 0,.int .i64 0,.iface 49 (.int .i64 2)]) (by simp [results,Tryz.results69,go_sem, *] <;> trivial) rfl ?_;exact ⟨rfl,bw4⟩
  ·have e95:(((d.toNat:Nat):Int) == 95)=false:=(am d 95).trans (by simp [h47])
   have e46:(((d.toNat:Nat):Int) == 46)=false:=(am d 46).trans (by simp [h47]);have e47:(((d.toNat:Nat):Int) == 47)=true:=(am d 47).trans (by simp [h47]);clear h47;go_in;go_wp2_with fail;(with_reducible refine (gR _ c _ hsg).mono ?_);rintro e w1 ⟨x,hx,rfl,hb1⟩;have hx9:(0≤x)=False:=by simpa using hx
   clear hx;have bw1:=hb1;go_wp2_with fail;(with_reducible refine (dD _ (s) hs (0) hwn).mono ?_);rintro e w2 ⟨rfl,q2⟩;have bw2:=bw1.trans (q2.mono bw1.size);have lw2:=q2.size;clear q2;go_wp2_with fail;(with_reducible refine (cW _ (s) hs (m) hnm).mono ?_);rintro e w3 ⟨rfl,q3⟩;have bw3:=bw2.trans (q3.mono bw2.size);have lw3:=q3.size;clear q3 bw2;go_wp2_with fail;(with_reducible refine (cU _ d false hl).mono ?_);rintro e w4 ⟨rfl,q4⟩;have bw4:=bw3.trans (q4.mono bw3.size);have lw4:=q4.size;clear q4 bw3;go_wp2_with fail;refine bodyPost_ret (v:=.tuple #[.int .i64 0,.int .i64 0,.iface 49 (.int .i64 2)]) (by simp [results,Tryz.results69,go_sem, *] <;> trivial) rfl ?_;exact ⟨rfl,bw4⟩
  have e95:(((d.toNat:Nat):Int) == 95)=false:=(am d 95).trans (by simp [h95]);have e46:(((d.toNat:Nat):Int) == 46)=false:=(am d 46).trans (by simp [h46]);have e47:(((d.toNat:Nat):Int) == 47)=false:=(am d 47).trans (by simp [h47]);clear h95 h46 h47;go_in;go_wp2_with fail;(with_reducible refine (gR _ c _ hsg).mono ?_);rintro e w1 ⟨x,hx,rfl,hb1⟩;have hx9:(0≤x)=False:=by simpa using hx
  clear hx;have bw1:=hb1;go_wp2_with fail;(with_reducible refine (dD _ (s) hs (0) hwn).mono ?_);rintro e w2 ⟨rfl,q2⟩;have bw2:=bw1.trans (q2.mono bw1.size);have lw2:=q2.size;clear q2;go_wp2_with fail;(with_reducible refine (cW _ (s) hs (m) hnm).mono ?_);rintro e w3 ⟨rfl,q3⟩;have bw3:=bw2.trans (q3.mono bw2.size);have lw3:=q3.size;clear q3 bw2;go_wp2_with fail;(with_reducible refine (cU _ d false hl).mono ?_);rintro e w4 ⟨rfl,q4⟩;have bw4:=bw3.trans (q4.mono bw3.size);have lw4:=q4.size;clear q4 bw3;go_wp2_with fail;refine bodyPost_ret (v:=.tuple #[.int .i64 1,.int .i64 m,.nilIface]) (by simp [results,Tryz.results69,go_sem, *] <;> trivial) rfl ?_;exact ⟨rfl,bw4⟩
 have hml1:((m:Int) < (s.length:Int))=False:=by simp;omega
 have hd0:d=0:=by rw [← hd];exact fd hl9
 subst hd0;clear hd;rcases hc with ⟨hl,rfl⟩ | ⟨hl,h95,rfl⟩ | ⟨hl,h46,rfl⟩ | ⟨hl,h47,rfl⟩ | ⟨hl,h95,h46,h47,rfl⟩
 ·exact absurd hl (by decide)
 ·exact absurd h95 (by decide)
 ·exact absurd h46 (by decide)
 ·exact absurd h47 (by decide)
 clear h95 h46 h47 hl;go_in;go_wp2_with fail;(with_reducible refine (gR _ c _ hsg).mono ?_);rintro e w1 ⟨x,hx,rfl,hb1⟩;have hx9:(0≤x)=False:=by simpa using hx
 clear hx;have bw1:=hb1;go_wp2_with fail;(with_reducible refine (dD _ (s) hs (0) hwn).mono ?_);rintro e w2 ⟨rfl,q2⟩;have bw2:=bw1.trans (q2.mono bw1.size);have lw2:=q2.size;clear q2;go_wp2_with fail;(with_reducible refine (cW _ (s) hs (m) hnm).mono ?_);rintro e w3 ⟨rfl,q3⟩;have bw3:=bw2.trans (q3.mono bw2.size);have lw3:=q3.size;clear q3 bw2;go_wp2_with fail;refine bodyPost_ret (v:=.tuple #[.int .i64 1,.int .i64 m,.nilIface]) (by simp [results,Tryz.results69,go_sem, *] <;> trivial) rfl ?_;exact ⟨rfl,bw3⟩
theorem vI (w:World) (s:List UInt8) (x:Int) (i:Nat) (hx:x=((i:Nat):Int)) (hi:i < s.length) (hs:s.length < 4611686018427387904) (f:nh) (hf:aV (s.drop i)=f):Calls Tryz.prog 80 #[ae s,.int .i64 x] w (av w (AO i f)):=by
 subst hx;have hszs:=bX s;obtain ⟨c,hc0,n,hwn,m,hnm,hnl,hml,hcs⟩:=kx (s:=s) (i:=i) hi hf;clear hf;have hget:∀ h,(⟨s.toArray⟩:ByteArray)[i]'h=c:=fun h=>by rw [← hc0];exact (cw hi).symm
 have hlts:i < s.length:=hi;clear hc0;rcases hcs with ⟨hsg,hn0,hm0,rfl⟩ | ⟨hsg,hn1,rfl⟩ | ⟨hsg,hn1,hn2,rfl⟩ | ⟨hsg,hn0,hm0,rfl⟩ | ⟨hsg,hn0,hm1,rfl⟩ | ⟨hsg,hn0,hm1,hm2,d,hd,hc⟩
 ·have hwi:IntKind.i64.wrap ((i:Int)+1)=(i:Int)+1:=IntWalk.i64_in _ ⟨by omega,by omega⟩
  subst hn0;subst hm0;go_in;go_wp2_with fail;(with_reducible refine (bp _ (s) ((i:Int)) i rfl (by omega) hs ((i:Int)) (by have h9:=hwn;omega)).mono ?_);rintro e w1 ⟨rfl,q1⟩;have bw1:=(aa w).trans (q1.mono (aa w).size);have lw1:=q1.size;clear q1;go_wp2_with fail;(with_reducible refine (bN _ (s) ((i:Int)) i rfl (by omega) hs ((i:Int)) (by have h9:=hnm;omega)).mono ?_);rintro e w2 ⟨rfl,q2⟩;have bw2:=bw1.trans (q2.mono bw1.size);have lw2:=q2.size;clear q2 bw1;go_wp2_with fail;(with_reducible refine (pF _ c true hsg).mono ?_);rintro e w3 ⟨rfl,q3⟩;have bw3:=bw2.trans (q3.mono bw2.size);have lw3:=q3.size;clear q3 bw2;go_wp2_with fail;refine bodyPost_ret (v:=.tuple #[.int .i64 2,.int .i64 ((i:Int)+1),.int .i64 0]) (by simp [results,Tryz.results80,go_sem, *] <;> trivial) rfl ?_;exact ⟨rfl,bw3⟩
 ·have hgt:((i:Int) < (i:Int)+(n:Int))=True:=by simp;omega
  have hgp:((0:Int) < (n:Int))=True:=by simp;omega
  have hws:IntKind.i64.wrap ((i:Int)+(n:Int) - (i:Int))=(n:Int):=by rw [show (i:Int)+(n:Int) - (i:Int)=(n:Int) by omega];exact IntWalk.i64_in _ ⟨by omega,by omega⟩
  have hws2:IntKind.i64.wrap (n:Int)=(n:Int):=IntWalk.i64_in _ ⟨by omega,by omega⟩;have hg2:((24:Int) < (n:Int))=True:=by simp;omega
  go_in;go_wp2_with fail;(with_reducible refine (bp _ (s) ((i:Int)) i rfl (by omega) hs ((i:Int)+(n:Int)) (by have h9:=hwn;omega)).mono ?_);rintro e w1 ⟨rfl,q1⟩;have bw1:=(aa w).trans (q1.mono (aa w).size);have lw1:=q1.size;clear q1;go_wp2_with fail;refine bodyPost_ret (v:=.tuple #[.int .i64 0,.int .i64 0,.int .i64 5]) (by simp [results,Tryz.results80,go_sem, *] <;> trivial) rfl ?_;exact ⟨rfl,bw1⟩
 ·have hgt:((i:Int) < (i:Int)+(n:Int))=True:=by simp;omega
  have hgp:((0:Int) < (n:Int))=True:=by simp;omega
  have hws:IntKind.i64.wrap ((i:Int)+(n:Int) - (i:Int))=(n:Int):=by rw [show (i:Int)+(n:Int) - (i:Int)=(n:Int) by omega];exact IntWalk.i64_in _ ⟨by omega,by omega⟩
  have hws2:IntKind.i64.wrap (n:Int)=(n:Int):=IntWalk.i64_in _ ⟨by omega,by omega⟩;have hg2:((24:Int) < (n:Int))=False:=by simp;omega
  go_in;go_wp2_with fail;(with_reducible refine (bp _ (s) ((i:Int)) i rfl (by omega) hs ((i:Int)+(n:Int)) (by have h9:=hwn;omega)).mono ?_);rintro e w1 ⟨rfl,q1⟩;have bw1:=(aa w).trans (q1.mono (aa w).size);have lw1:=q1.size;clear q1;go_wp2_with fail;refine bodyPost_ret (v:=.tuple #[.int .i64 0,.int .i64 ((i:Int)+(n:Int)),.int .i64 0]) (by simp [results,Tryz.results80,go_sem, *] <;> trivial) rfl ?_;exact ⟨rfl,bw1⟩
 ·subst hn0
  subst hm0;go_in;go_wp2_with fail;(with_reducible refine (bp _ (s) ((i:Int)) i rfl (by omega) hs ((i:Int)) (by have h9:=hwn;omega)).mono ?_);rintro e w1 ⟨rfl,q1⟩;have bw1:=(aa w).trans (q1.mono (aa w).size);have lw1:=q1.size;clear q1;go_wp2_with fail;(with_reducible refine (bN _ (s) ((i:Int)) i rfl (by omega) hs ((i:Int)) (by have h9:=hnm;omega)).mono ?_);rintro e w2 ⟨rfl,q2⟩;have bw2:=bw1.trans (q2.mono bw1.size);have lw2:=q2.size;clear q2 bw1;go_wp2_with fail;(with_reducible refine (pF _ c false hsg).mono ?_);rintro e w3 ⟨rfl,q3⟩;have bw3:=bw2.trans (q3.mono bw2.size);have lw3:=q3.size;clear q3 bw2;go_wp2_with fail;refine bodyPost_ret (v:=.tuple #[.int .i64 0,.int .i64 0,.int .i64 2]) (by simp [results,Tryz.results80,go_sem, *] <;> trivial) rfl ?_;exact ⟨rfl,bw3⟩
 ·subst hn0
  have hgt:((i:Int) < (i:Int)+(m:Int))=True:=by simp;omega
  have hgp:((0:Int) < (m:Int))=True:=by simp;omega
  have hws:IntKind.i64.wrap ((i:Int)+(m:Int) - (i:Int))=(m:Int):=by rw [show (i:Int)+(m:Int) - (i:Int)=(m:Int) by omega];exact IntWalk.i64_in _ ⟨by omega,by omega⟩
  have hws2:IntKind.i64.wrap (m:Int)=(m:Int):=IntWalk.i64_in _ ⟨by omega,by omega⟩;have hg2:((60:Int) < (m:Int))=True:=by simp;omega
  go_in;go_wp2_with fail;(with_reducible refine (bp _ (s) ((i:Int)) i rfl (by omega) hs ((i:Int)) (by have h9:=hwn;omega)).mono ?_);rintro e w1 ⟨rfl,q1⟩;have bw1:=(aa w).trans (q1.mono (aa w).size);have lw1:=q1.size;clear q1;go_wp2_with fail;(with_reducible refine (bN _ (s) ((i:Int)) i rfl (by omega) hs ((i:Int)+(m:Int)) (by have h9:=hnm;omega)).mono ?_);rintro e w2 ⟨rfl,q2⟩;have bw2:=bw1.trans (q2.mono bw1.size);have lw2:=q2.size;clear q2 bw1;go_wp2_with fail;refine bodyPost_ret (v:=.tuple #[.int .i64 0,.int .i64 0,.int .i64 4]) (by simp [results,Tryz.results80,go_sem, *] <;> trivial) rfl ?_;exact ⟨rfl,bw2⟩
 subst hn0;have hgt:((i:Int) < (i:Int)+(m:Int))=True:=by simp;omega
 have hgp:((0:Int) < (m:Int))=True:=by simp;omega
 have hws:IntKind.i64.wrap ((i:Int)+(m:Int) - (i:Int))=(m:Int):=by rw [show (i:Int)+(m:Int) - (i:Int)=(m:Int) by omega];exact IntWalk.i64_in _ ⟨by omega,by omega⟩
 have hws2:IntKind.i64.wrap (m:Int)=(m:Int):=IntWalk.i64_in _ ⟨by omega,by omega⟩;have hg2:((60:Int) < (m:Int))=False:=by simp;omega
 rcases hc with ⟨hl,rfl⟩ | ⟨hl,h95,rfl⟩ | ⟨hl,h46,rfl⟩ | ⟨hl,h47,rfl⟩ | ⟨hl,h95,h46,h47,rfl⟩
 ·skip
  go_in;go_wp2_with fail;(with_reducible refine (bp _ (s) ((i:Int)) i rfl (by omega) hs ((i:Int)) (by have h9:=hwn;omega)).mono ?_);rintro e w1 ⟨rfl,q1⟩;have bw1:=(aa w).trans (q1.mono (aa w).size);have lw1:=q1.size;clear q1;go_wp2_with fail;(with_reducible refine (bN _ (s) ((i:Int)) i rfl (by omega) hs ((i:Int)+(m:Int)) (by have h9:=hnm;omega)).mono ?_);rintro e w2 ⟨rfl,q2⟩;have bw2:=bw1.trans (q2.mono bw1.size);have lw2:=q2.size;clear q2 bw1;go_wp2_with fail;(with_reducible refine (aY _ (s) (((i:Int)+(m:Int))) (i+m) (by omega) d hd).mono ?_);rintro e w3 ⟨rfl,q3⟩;have bw3:=bw2.trans (q3.mono bw2.size);have lw3:=q3.size;clear q3 bw2;go_wp2_with fail;(with_reducible refine (cV _ d true hl).mono ?_);rintro e w4 ⟨rfl,q4⟩;have bw4:=bw3.trans (q4.mono bw3.size);have lw4:=q4.size;clear q4 bw3;go_wp2_with fail;refine bodyPost_ret (v:=.tuple #[.int .i64 0,.int .i64 0,.int .i64 2]) (by simp [results,Tryz.results80,go_sem, *] <;> trivial) rfl ?_;exact ⟨rfl,bw4⟩
 ·have e95:(((d.toNat:Nat):Int) == 95)=true:=(am d 95).trans (by simp [h95])
  clear h95;go_in;go_wp2_with fail;(with_reducible refine (bp _ (s) ((i:Int)) i rfl (by omega) hs ((i:Int)) (by have h9:=hwn;omega)).mono ?_);rintro e w1 ⟨rfl,q1⟩;have bw1:=(aa w).trans (q1.mono (aa w).size);have lw1:=q1.size;clear q1;go_wp2_with fail;(with_reducible refine (bN _ (s) ((i:Int)) i rfl (by omega) hs ((i:Int)+(m:Int)) (by have h9:=hnm;omega)).mono ?_);rintro e w2 ⟨rfl,q2⟩;have bw2:=bw1.trans (q2.mono bw1.size);have lw2:=q2.size;clear q2 bw1;go_wp2_with fail;(with_reducible refine (aY _ (s) (((i:Int)+(m:Int))) (i+m) (by omega) d hd).mono ?_);rintro e w3 ⟨rfl,q3⟩;have bw3:=bw2.trans (q3.mono bw2.size);have lw3:=q3.size;clear q3 bw2;go_wp2_with fail;(with_reducible refine (cV _ d false hl).mono ?_);rintro e w4 ⟨rfl,q4⟩;have bw4:=bw3.trans (q4.mono bw3.size);have lw4:=q4.size;clear q4 bw3;go_wp2_with fail;refine bodyPost_ret (v:=.tuple #[.int .i64 0,.int .i64 0,.int .i64 2]) (by simp [results,Tryz.results80,go_sem, *] <;> trivial) rfl ?_;exact ⟨rfl,bw4⟩
 ·have e95:(((d.toNat:Nat):Int) == 95)=false:=(am d 95).trans (by simp [h46])
  have e46:(((d.toNat:Nat):Int) == 46)=true:=(am d 46).trans (by simp [h46]);clear h46;go_in;go_wp2_with fail;(with_reducible refine (bp _ (s) ((i:Int)) i rfl (by omega) hs ((i:Int)) (by have h9:=hwn;omega)).mono ?_);rintro e w1 ⟨rfl,q1⟩;have bw1:=(aa w).trans (q1.mono (aa w).size);have lw1:=q1.size;clear q1;go_wp2_with fail;(with_reducible refine (bN _ (s) ((i:Int)) i rfl (by omega) hs ((i:Int)+(m:Int)) (by have h9:=hnm;omega)).mono ?_);rintro e w2 ⟨rfl,q2⟩;have bw2:=bw1.trans (q2.mono bw1.size);have lw2:=q2.size;clear q2 bw1;go_wp2_with fail;(with_reducible refine (aY _ (s) (((i:Int)+(m:Int))) (i+m) (by omega) d hd).mono ?_);rintro e w3 ⟨rfl,q3⟩;have bw3:=bw2.trans (q3.mono bw2.size);have lw3:=q3.size;clear q3 bw2;go_wp2_with fail;(with_reducible refine (cV _ d false hl).mono ?_);rintro e w4 ⟨rfl,q4⟩;have bw4:=bw3.trans (q4.mono bw3.size);have lw4:=q4.size;clear q4 bw3;go_wp2_with fail;refine bodyPost_ret (v:=.tuple #[.int .i64 0,.int .i64 0,.int .i64 2]) (by simp [results,Tryz.results80,go_sem, *] <;> trivial) rfl ?_;exact ⟨rfl,bw4⟩
 ·have e95:(((d.toNat:Nat):Int) == 95)=false:=(am d 95).trans (by simp [h47])
  have e46:(((d.toNat:Nat):Int) == 46)=false:=(am d 46).trans (by simp [h47]);have e47:(((d.toNat:Nat):Int) == 47)=true:=(am d 47).trans (by simp [h47]);clear h47;go_in;go_wp2_with fail;(with_reducible refine (bp _ (s) ((i:Int)) i rfl (by omega) hs ((i:Int)) (by have h9:=hwn;omega)).mono ?_);rintro e w1 ⟨rfl,q1⟩;have bw1:=(aa w).trans (q1.mono (aa w).size);have lw1:=q1.size;clear q1;go_wp2_with fail;(with_reducible refine (bN _ (s) ((i:Int)) i rfl (by omega) hs ((i:Int)+(m:Int)) (by have h9:=hnm;omega)).mono ?_);rintro e w2 ⟨rfl,q2⟩;have bw2:=bw1.trans (q2.mono bw1.size);have lw2:=q2.size;clear q2 bw1;go_wp2_with fail;(with_reducible refine (aY _ (s) (((i:Int)+(m:Int))) (i+m) (by omega) d hd).mono ?_);rintro e w3 ⟨rfl,q3⟩;have bw3:=bw2.trans (q3.mono bw2.size);have lw3:=q3.size;clear q3 bw2;go_wp2_with fail;(with_reducible refine (cV _ d false hl).mono ?_);rintro e w4 ⟨rfl,q4⟩;have bw4:=bw3.trans (q4.mono bw3.size);have lw4:=q4.size;clear q4 bw3;go_wp2_with fail;refine bodyPost_ret (v:=.tuple #[.int .i64 0,.int .i64 0,.int .i64 2]) (by simp [results,Tryz.results80,go_sem, *] <;> trivial) rfl ?_;exact ⟨rfl,bw4⟩
 have e95:(((d.toNat:Nat):Int) == 95)=false:=(am d 95).trans (by simp [h95]);have e46:(((d.toNat:Nat):Int) == 46)=false:=(am d 46).trans (by simp [h46]);have e47:(((d.toNat:Nat):Int) == 47)=false:=(am d 47).trans (by simp [h47]);clear h95 h46 h47;go_in;go_wp2_with fail;(with_reducible refine (bp _ (s) ((i:Int)) i rfl (by omega) hs ((i:Int)) (by have h9:=hwn;omega)).mono ?_);rintro e w1 ⟨rfl,q1⟩;have bw1:=(aa w).trans (q1.mono (aa w).size);have lw1:=q1.size;clear q1;go_wp2_with fail;(with_reducible refine (bN _ (s) ((i:Int)) i rfl (by omega) hs ((i:Int)+(m:Int)) (by have h9:=hnm;omega)).mono ?_);rintro e w2 ⟨rfl,q2⟩;have bw2:=bw1.trans (q2.mono bw1.size);have lw2:=q2.size;clear q2 bw1;go_wp2_with fail;(with_reducible refine (aY _ (s) (((i:Int)+(m:Int))) (i+m) (by omega) d hd).mono ?_);rintro e w3 ⟨rfl,q3⟩;have bw3:=bw2.trans (q3.mono bw2.size);have lw3:=q3.size;clear q3 bw2;go_wp2_with fail;(with_reducible refine (cV _ d false hl).mono ?_);rintro e w4 ⟨rfl,q4⟩;have bw4:=bw3.trans (q4.mono bw3.size);have lw4:=q4.size;clear q4 bw3;go_wp2_with fail;refine bodyPost_ret (v:=.tuple #[.int .i64 1,.int .i64 ((i:Int)+(m:Int)),.int .i64 0]) (by simp [results,Tryz.results80,go_sem, *] <;> trivial) rfl ?_;exact ⟨rfl,bw4⟩
def mB (t:Tkn):List Value:=[.int .i64 (t.kind:Nat),ae t.text,.int .i64 (t.line:Nat),.int .i64 (t.col:Nat)]
def cM (l:List Tkn):List Value:=l.flatMap mB
theorem lI (l:List Tkn) (t:Tkn):cM (l ++ [t])=cM l ++ mB t:=by simp [cM]
theorem tE (l:List Tkn):(cM l).length=l.length * 4:=by
 induction l with
 | nil=>rfl
 | cons t l ih =>
  have:cM (t :: l)=mB t ++ cM l:=rfl;rw [this,List.length_append,ih,List.length_cons];show 4+_=_;omega
def TkS (w:World) (A:Option Addr) (n c:Nat) (l:List Tkn):Prop:=l.length=n∧((n=0∧A=none∧c=0)∨∃ g,A=some ⟨g,0,none⟩∧n≤c∧∀ i v,(cM l)[i]?=some v→w.cell? ⟨g,i,none⟩=some v)
theorem TkS.belw {w w':World}{A:Option Addr}{n c:Nat}{l:List Tkn}(h:TkS w A n c l) (hb:Below w.heap.size w w'):TkS w' A n c l:=by
 refine ⟨h.1,?_⟩;rcases h.2 with h | ⟨g,e,hc,h⟩
 ·exact .inl h
 exact .inr ⟨g,e,hc,fun i v hv=>(hb.cell (p:=⟨g,i,none⟩) (World.block_lt_of_cell? w _ (h i v hv))).trans (h i v hv)⟩
theorem TkS.nil (w:World):TkS w none 0 0 []:=⟨rfl,.inl ⟨rfl,rfl,rfl⟩⟩
theorem TkS.of_own {w:World}{base:Nat}{e:TypeId}{v:Value}{l:List Tkn}(h:w.ownsRow base e 4 v l.length (cM l)):∃ A c,v=.slice A l.length c∧TkS w A l.length c l:=by
 rcases h.2 with ⟨rfl,h0⟩ | ⟨g,cap,cur,rfl,hb,hg,hn,hc,hs,ht⟩
 ·exact ⟨none,0,by rw [h0],rfl,.inl ⟨h0,rfl,rfl⟩⟩
 refine ⟨_,_,rfl,rfl,.inr ⟨g,rfl,hn,fun i v hv=>?_⟩⟩;rw [cell_of_row w g i cur e (0,0) hg];rw [← ht,List.getElem?_take] at hv;split at hv
 ·simpa using hv
 cases hv
theorem dK {w w':World}{base:Nat}{e:TypeId}{size:Nat}{v:Value}{n:Nat}{xs:List Value}(h:w.ownsRow base e size v n xs) (hb:Below w.heap.size w w'):w'.ownsRow base e size v n xs:=by
 refine ⟨h.1,?_⟩;rcases h.2 with h | ⟨g,cap,cur,hv,hb1,hg,rest⟩
 ·exact .inl h
 exact .inr ⟨g,cap,cur,hv,hb1,(hb.block g (lt_of_block hg)).trans hg,rest⟩
def pre (d:List Tkn):jG→jG
  | .ok l=>.ok (d ++ l)
  | .err x=>.err x
theorem rT (x:jG):pre [] x=x:=by cases x <;> rfl
theorem pQ (d:List Tkn) (t:Tkn) (x:jG):pre d (jG.push t x)=pre (d ++ [t]) x:=by cases x <;> simp [pre,jG.push]
inductive aR (s:List UInt8) (x:Int) (l:List Tkn):Prop
  | big (h:65536 < s.length) (hx:x=4) (hl:l=[])
  | ok (h:s.length≤65536) (ht:dC s=.ok l) (hx:x=0)
  | err (n:Nat) (h:s.length≤65536) (ht:dC s=.err n) (hx:x=(n:Int)) (hl:l=[])
theorem pR (s:List UInt8):∃ x l,aR s x l:=by
 by_cases h:65536 < s.length
 ·exact ⟨4,[],.big h rfl rfl⟩
 cases ht:dC s with
 | ok l=>exact ⟨0,l,.ok (by omega) ht rfl⟩
 | err n=>exact ⟨n,[],.err n (by omega) ht rfl rfl⟩
theorem aR.uniq {s:List UInt8}{x y:Int}{l m:List Tkn}(h:aR s x l) (h':aR s y m):x=y∧l=m:=by
 rcases h with ⟨a,b,c⟩ | ⟨a,b,c⟩ | ⟨n,a,b,c,d⟩ <;> rcases h' with ⟨a',b',c'⟩ | ⟨a',b',c'⟩ | ⟨n',a',b',c',d'⟩ <;> first
  | omega
  | exact ⟨by rw [b,b'],by rw [c,c']⟩
  | (rw [b] at b';injection b' with e;exact ⟨by rw [c,c'],e⟩)
  | (rw [b] at b';cases b';done)
  | (rw [b] at b';injection b' with e;exact ⟨by rw [c,c',e],by rw [d,d']⟩)
def qS (w:World) (ev:Value) (l:List Tkn) (e:Ending) (w':World):Prop:=∃ A n c,e=.returned (.tuple #[.slice A n c,ev])∧TkS w' A n c l∧Below w.heap.size w w'
def yH (ev:Int→Value) (w:World) (s:List UInt8) (e:Ending) (w':World):Prop:=∃ x l,aR s x l∧qS w (ev x) l e w'
theorem pS:(Tryz.prog.info? 123).map (fun i=>(i.zero,i.size,i.bytes))=some (some (.agg #[.int .i64 0,.string ⟨#[]⟩,.int .i64 0,.int .i64 0]),4,40):=by kernel_rfl
theorem nq {s:List UInt8}{j:Nat}(hl:j < s.length) (h:atB s j≠10):dw (s.drop j)=1+dw (s.drop (j+1)):=by
 rw [bG hl];unfold dw;rw [List.takeWhile_cons,if_pos (by simpa using h),List.length_cons];omega
theorem iw {s:List UInt8}{j:Nat}(h:s.length≤j∨atB s j=10):dw (s.drop j)=0:=by
 rcases Nat.lt_or_ge j s.length with hl | hl
 ·rw [bG hl]
  unfold dw;rcases h with h | h
  ·omega
  rw [List.takeWhile_cons,if_neg (by simp [h])];rfl
 rw [List.drop_eq_nil_of_le hl];rfl
theorem nr {s:List UInt8}{i:Nat}(hl:i < s.length) (h:atB s i=37) (line col:Nat):0 < dw (s.drop i)∧tk (s.drop i) line col=tk (s.drop (i+dw (s.drop i))) line (col+dw (s.drop i)):=by
 have e:=bG hl;rw [h] at e;refine ⟨by rw [e];exact jI,?_⟩
 conv=>lhs;rw [e]
 rw [vy,← e,List.drop_drop]
theorem lJ {s:List UInt8}{i:Nat}(hl:i < s.length) (h:atB s i=10) (line col:Nat):tk (s.drop i) line col=tk (s.drop (i+1)) (line+1) 1:=by rw [bG hl,h,kN]
theorem ky {s:List UInt8}{i:Nat}(hl:i < s.length) (h:dB (atB s i)=true) (line col:Nat):tk (s.drop i) line col=tk (s.drop (i+1)) line (col+1):=by rw [bG hl,jJ h]
theorem nt {s:List UInt8}{i k n:Nat}(hl:i < s.length) (h:aV (s.drop i)=.ok k n) (line col:Nat):tk (s.drop i) line col=(tk (s.drop (i+n)) line (col+n)).push ⟨k,(s.drop i).take n,line,col⟩:=by
 have e:=bG hl;rw [e] at h ⊢;rw [qL h,← e,List.drop_drop]
theorem nw {s:List UInt8}{i x:Nat}(hl:i < s.length) (h:aV (s.drop i)=.err x) (h1:atB s i≠10) (h2:dB (atB s i)=false) (h3:atB s i≠37) (line col:Nat):tk (s.drop i) line col=.err x:=by
 rw [bG hl] at h ⊢;exact vz h h1 h2 h3 line col
theorem qT (w:World) (s:List UInt8) (hp:0 < s.length) (hs:s.length < 4611686018427387904) (k n:Nat) (hf:aV s=.ok k n):Calls Tryz.prog 69 #[ae s] w (av w (.tuple #[.int .i64 (k:Nat),.int .i64 (n:Nat),.nilIface])):=rS w s hp hs _ hf
theorem pT (w:World) (s:List UInt8) (hp:0 < s.length) (hs:s.length < 4611686018427387904) (x:Nat) (hf:aV s=.err x):Calls Tryz.prog 69 #[ae s] w (av w (.tuple #[.int .i64 0,.int .i64 0,.iface 49 (.int .i64 (x:Nat))])):=rS w s hp hs _ hf
theorem tF (w:World) (s:List UInt8) (i:Nat) (hi:i < s.length) (hs:s.length < 4611686018427387904) (k n:Nat) (hf:aV (s.drop i)=.ok k n):Calls Tryz.prog 80 #[ae s,.int .i64 (i:Nat)] w (av w (.tuple #[.int .i64 (k:Nat),.int .i64 ((i:Int)+(n:Nat)),.int .i64 0])):=vI w s _ i rfl hi hs _ hf
theorem qU (w:World) (s:List UInt8) (i:Nat) (hi:i < s.length) (hs:s.length < 4611686018427387904) (x:Nat) (hf:aV (s.drop i)=.err x):Calls Tryz.prog 80 #[ae s,.int .i64 (i:Nat)] w (av w (.tuple #[.int .i64 0,.int .i64 0,.int .i64 (x:Nat)])):=vI w s _ i rfl hi hs _ hf
theorem kA {r:List UInt8}{x:Nat}(h:aV r=.err x):0 < x:=by
 unfold aV at h;split at h
 ·injection h with h;omega
 split at h
 ·cases h
 split at h
 ·split at h
  ·injection h with h;omega
  cases h
 split at h
 ·injection h with h;omega
 split at h
 ·injection h with h;omega
 split at h
 ·injection h with h;omega
 cases h
theorem isBlk_3 {c:UInt8}(h:dB c=true):c=32∨c=9∨c=13:=by
 unfold dB at h;simpa [or_assoc] using h
theorem xO (w:World) (s:List UInt8):Calls Tryz.prog 36 #[ae s] w (yH (fun x=>cD x) w s):=by
 have hszs:=bX s;obtain ⟨i0,hi0,hz0,hz1,hz2⟩:=info_parts pS;rcases Nat.lt_or_ge 65536 s.length with hbig | hsm
 ·have hlen:((65536:Int) < (s.length:Int))=True:=by simp;omega
  clear hi0 hz0 hz1 hz2;go_in;go_wp2_with fail;refine bodyPost_ret (v:=.tuple #[.slice none 0 0,.iface 49 (.int .i64 4)]) (by simp [results,Tryz.results36,go_sem, *] <;> trivial) rfl ?_;exact ⟨4,[],.big hbig rfl rfl,none,0,0,rfl,TkS.nil _,aa w⟩
 have hlen:((65536:Int) < (s.length:Int))=False:=by simp;omega
 have hs:s.length < 4611686018427387904:=by omega
 have HI:=Qh (And.intro hi0 (And.intro hz0 (And.intro hz1 hz2)));clear hi0 hz0 hz1 hz2;go_in;go_wp2_with fail;go_loopw [4,5,6,7] (fun ov lv sv iv wr=>∃ (done:List Tkn) (i line st:Nat),lv=.int .i64 (line:Nat)∧sv=.int .i64 (st:Nat)∧iv=.int .i64 (i:Nat)∧i≤s.length∧st≤i∧line≤i+1∧done.length≤i∧Hid (dC s=pre done (tk (s.drop i) line (i - st+1)))∧wr.ownsRow w.heap.size 123 4 ov done.length (cM done)∧Below w.heap.size w wr) (fun _ _ _ iv _=>s.length - (intOf iv).toNat)
 case atStart=>exact ⟨[],0,1,0,rfl,rfl,rfl,Nat.zero_le _,Qr,by omega,Qr,Qh (by rw [rT];rfl),⟨rfl,.inl ⟨rfl,rfl⟩⟩,aa w⟩
 case round =>
  obtain ⟨done,i,line,st,rfl,rfl,rfl,hi,hst,hln,hdn,hT,hown,hbel⟩:=hrel;have HO:=Qh hown;clear hown;rcases Nat.lt_or_ge i s.length with hl | hl
  ·have hi1:((i:Int) < (s.length:Int))=True:=by simp;omega
   have hlts:i < s.length:=hl;obtain ⟨c,hc⟩:∃ c,atB s i=c:=⟨_,rfl⟩;have hget:∀ h,(⟨s.toArray⟩:ByteArray)[i]'h=c:=fun h=>by rw [← hc];exact (cw hl).symm
   by_cases h10:c=10
   ·have q10:(((c.toNat:Nat):Int) == 10)=true:=(am c 10).trans (by simp [h10])
    have hT2:=lJ hl (by rw [hc];exact h10) line (i - st+1);have h10b:c≠37:=by rw [h10];decide
    go_wp2_with fail;go_roundw
    case rel=>exact ⟨done,i+1,line+1,i+1,by go_num,by go_num,by go_num,by omega,by omega,by omega,by omega,Qh (by rw [hT.out,hT2];congr 2;omega),HO.out,hbel⟩
    case measure=>simp [intOf];omega
   have q10:(((c.toNat:Nat):Int) == 10)=false:=(am c 10).trans (by simp [h10]);by_cases hbk:dB c=true
   ·have hT2:=ky hl (by rw [hc];exact hbk) line (i - st+1)
    rcases isBlk_3 hbk with h3 | h3 | h3
    ·have q32:(((c.toNat:Nat):Int) == 32)=true:=(am c 32).trans (by simp [h3])
     clear h3;go_wp2_with fail;go_roundw
     case rel=>exact ⟨done,i+1,line,st,rfl,rfl,by go_num,by omega,by omega,by omega,by omega,Qh (by rw [hT.out,hT2];congr 2;omega),HO.out,hbel⟩
     case measure=>simp [intOf];omega
    ·have q32:(((c.toNat:Nat):Int) == 32)=false:=(am c 32).trans (by simp [h3])
     have q9:(((c.toNat:Nat):Int) == 9)=true:=(am c 9).trans (by simp [h3]);clear h3;go_wp2_with fail;go_roundw
     case rel=>exact ⟨done,i+1,line,st,rfl,rfl,by go_num,by omega,by omega,by omega,by omega,Qh (by rw [hT.out,hT2];congr 2;omega),HO.out,hbel⟩
     case measure=>simp [intOf];omega
    have q32:(((c.toNat:Nat):Int) == 32)=false:=(am c 32).trans (by simp [h3]);have q9:(((c.toNat:Nat):Int) == 9)=false:=(am c 9).trans (by simp [h3]);have q13:(((c.toNat:Nat):Int) == 13)=true:=(am c 13).trans (by simp [h3]);clear h3;go_wp2_with fail;go_roundw
    case rel=>exact ⟨done,i+1,line,st,rfl,rfl,by go_num,by omega,by omega,by omega,by omega,Qh (by rw [hT.out,hT2];congr 2;omega),HO.out,hbel⟩
    case measure=>simp [intOf];omega
   have hbk:dB c=false:=by simpa using hbk
   have q32:(((c.toNat:Nat):Int) == 32)=false:=(am c 32).trans (beq_eq_false_iff_ne.2 (by rintro rfl;exact absurd hbk (by decide)));have q9:(((c.toNat:Nat):Int) == 9)=false:=(am c 9).trans (beq_eq_false_iff_ne.2 (by rintro rfl;exact absurd hbk (by decide)));have q13:(((c.toNat:Nat):Int) == 13)=false:=(am c 13).trans (beq_eq_false_iff_ne.2 (by rintro rfl;exact absurd hbk (by decide)));by_cases h37:c=37
   ·have q37:(((c.toNat:Nat):Int) == 37)=true:=(am c 37).trans (by simp [h37])
    obtain ⟨hcp,hT2⟩:=nr hl (by rw [hc];exact h37) line (i - st+1);go_wp2_with fail;clear q10 q32 q9 q13 q37 hget h10 hbk h37 hc;go_loopw [7] (fun jv w2=>∃ (j:Nat),jv=.int .i64 (j:Nat)∧i≤j∧j≤s.length∧Hid (j+dw (s.drop j)=i+dw (s.drop i))∧wr=w2) (fun jv _=>s.length - (intOf jv).toNat)
    case atStart=>exact ⟨i,rfl,Qr,hi,Qh rfl,by first | rfl | trivial⟩
    case round =>
     obtain ⟨j,rfl,hij,hj,hcj,hw2⟩:=hrel;subst hw2;rcases Nat.lt_or_ge j s.length with hjl | hjl
     ·have hlj:j < s.length:=hjl
      have hj1:((j:Int) < (s.length:Int))=True:=by simp;omega
      obtain ⟨d,hd⟩:∃ d,atB s j=d:=⟨_,rfl⟩;have hget:∀ h,(⟨s.toArray⟩:ByteArray)[j]'h=d:=fun h=>by rw [← hd];exact (cw hjl).symm
      by_cases hd10:d=10
      ·have e10:(((d.toNat:Nat):Int) == 10)=true:=(am d 10).trans (by simp [hd10])
       have hst0:=iw (s:=s) (j:=j) (.inr (by rw [hd];exact hd10));have hjn:i+dw (s.drop i)=j:=by have:=hcj.out;omega
       clear hd hd10;go_wp2_with fail;go_roundw
       case rel=>exact ⟨done,j,line,st,rfl,rfl,rfl,hj,by omega,by omega,by omega,Qh (by rw [hT.out,hT2,hjn,show i - st+1+dw (s.drop i)=j - st+1 by have:=hcj.out;omega]),HO.out,hbel⟩
       case measure=>simp [intOf];omega
      have e10:(((d.toNat:Nat):Int) == 10)=false:=(am d 10).trans (by simp [hd10]);have hst9:=nq hjl (by rw [hd];exact hd10);clear hd hd10;go_wp2_with fail;go_roundw
      case rel=>exact ⟨j+1,by go_num,by omega,by omega,Qh (by have h9:=hcj.out;rw [hst9] at h9;omega),by first | rfl | trivial⟩
      case measure=>simp [intOf];omega
     have hj1:((j:Int) < (s.length:Int))=False:=by simp;omega
     have hst0:=iw (s:=s) (j:=j) (.inl hjl);have hjn:i+dw (s.drop i)=j:=by have:=hcj.out;omega
     go_wp2_with fail;go_roundw
     case rel=>exact ⟨done,j,line,st,rfl,rfl,rfl,hj,by omega,by omega,by omega,Qh (by rw [hT.out,hT2,hjn,show i - st+1+dw (s.drop i)=j - st+1 by have:=hcj.out;omega]),HO.out,hbel⟩
     case measure=>simp [intOf];omega
   have q37:(((c.toNat:Nat):Int) == 37)=false:=(am c 37).trans (by simp [h37]);obtain ⟨r,hr⟩:∃ r,s.drop i=r:=⟨_,rfl⟩;have hrl:r.length=s.length - i:=by rw [← hr,List.length_drop]
   have e2:(⟨s.toArray⟩:ByteArray).extract i s.length=⟨r.toArray⟩:=by
    rw [fQ,hr,List.take_of_length_le (by omega)]
   have hi0:(0:Int)≤(i:Int):=by omega
   have hiL:(i:Int)≤(s.length:Int):=by omega
   cases hf:aV (s.drop i) with
   | err x =>
    have hT2:=nw hl hf (by rw [hc];exact h10) (by rw [hc];exact hbk) (by rw [hc];exact h37) line (i - st+1);have hx0:=kA hf;have hx1:((x:Int) == 0)=false:=by simp;omega
    go_wp2_with fail;(with_reducible refine (pT _ r (by omega) (by omega) x (hr ▸ hf)).mono ?_);rintro e w1 ⟨rfl,hb9⟩;go_wp2_with fail;refine bodyPost_ret (v:=.tuple #[.slice none 0 0,.iface 49 (.int .i64 (x:Nat))]) (by simp [results,Tryz.results36,go_sem, *] <;> trivial) rfl ?_;refine ⟨(x:Int),[],.err x hsm (by rw [hT.out,hT2];rfl) rfl rfl,none,0,0,by show _=Ending.returned (.tuple #[_,cD (x:Int)]);rw [show cD (x:Int)=_ from if_neg (by omega)],TkS.nil _,hbel.trans (hb9.mono hbel.size)⟩
   | ok k n =>
    have hfk:=dt hf;rw [List.length_drop] at hfk;have hT2:=nt hl hf line (i - st+1);obtain ⟨x,hx⟩:∃ x,(s.drop i).take n=x:=⟨_,rfl⟩;rw [hx] at hT2;have hwin:IntKind.i64.wrap ((i:Int)+(n:Int))=(i:Int)+(n:Int):=IntWalk.i64_in _ ⟨by omega,by omega⟩;have htn:((i:Int)+(n:Int)).toNat=i+n:=by omega
    have e3:(⟨s.toArray⟩:ByteArray).extract i (i+n)=⟨x.toArray⟩:=by
     rw [fQ,← hx,show i+n - i=n by omega]
    have hn0:(0:Int)≤(i:Int)+(n:Int):=by omega
    have hn1:(i:Int)+(n:Int)≤(s.length:Int):=by omega
    have hn2:(i:Int)≤(i:Int)+(n:Int):=by omega
    have hwc1:IntKind.i64.wrap ((i:Int) - (st:Int))=(i:Int) - (st:Int):=IntWalk.i64_in _ ⟨by omega,by omega⟩;have hwc2:IntKind.i64.wrap ((i:Int) - (st:Int)+1)=(i:Int) - (st:Int)+1:=IntWalk.i64_in _ ⟨by omega,by omega⟩;go_wp2_with fail;(with_reducible refine (qT _ r (by omega) (by omega) k n (hr ▸ hf)).mono ?_);rintro e w1 ⟨rfl,hb9⟩;have HO3:=Qh (dK HO.out hb9);have hbel3:=hbel.trans (hb9.mono hbel.size);clear hb9;go_wp2_with (at_builtin;refine wpList_append_lies _ rfl _ _ _ rfl w.heap.size 123 i0 (.agg #[.int .i64 0,.string ⟨#[]⟩,.int .i64 0,.int .i64 0]) 4 40 Tryz.underlying82 HI.out.1 HI.out.2.1 HI.out.2.2.1 HI.out.2.2.2 rfl (by omega) _ done.length (cM done) rfl (HO3.out.alloc _) ⟨w1.heap.size,0,none⟩ 1 1 [_,_,_,_] rfl rfl (World.news_of_block (heap_alloc_new w1 _)) (by simp [Value.oneCell']) (by omega) (by unfold maxLen;omega) (by omega) (by have:=hbel3.size;simp;omega) (w1.heap.size+1) (by simp) ?_;intro gx cap w9 hown1 hgrow hat hlt1);go_roundw
    case rel =>
     refine ⟨done ++ [⟨k,x,line,(i - st+1)⟩],i+n,line,st,rfl,rfl,by go_num,by omega,by omega,by omega,by rw [List.length_append,List.length_singleton];omega,Qh ?_,?_,(hbel3.alloc hbel3.size _).grown hgrow (by have:=hbel3.size;simp;omega) (fO HO3.out)⟩
     ·rw [hT.out,hT2,pQ];congr 2;omega
     rw [lI,List.length_append,List.length_singleton];have e:([.int .i64 (k:Nat),ae x,.int .i64 (line:Nat),.int .i64 ((i:Int) - (st:Int)+1)]:List Value)=mB ⟨k,x,line,(i - st+1)⟩:=by unfold mB;simp;try omega
     rw [← e];exact hown1
    case measure=>simp [intOf];omega
  have hi1:((i:Int) < (s.length:Int))=False:=by simp;omega
  obtain rfl:i=s.length:=by omega
  obtain ⟨A,cc,hv,hS⟩:=TkS.of_own HO.out;subst hv;go_wp2_with fail;refine bodyPost_ret (v:=.tuple #[.slice A done.length cc,.nilIface]) (by simp [results,Tryz.results36,go_sem, *] <;> trivial) rfl ?_;exact ⟨0,done,.ok hsm (by rw [hT.out,List.drop_length,qK];simp [pre]) rfl,A,done.length,cc,rfl,hS,hbel⟩
theorem xP (w:World) (s:List UInt8):Calls Tryz.prog 43 #[ae s] w (yH (fun x=>.int .i64 x) w s):=by
 have hszs:=bX s;obtain ⟨i0,hi0,hz0,hz1,hz2⟩:=info_parts pS;rcases Nat.lt_or_ge 65536 s.length with hbig | hsm
 ·have hlen:((65536:Int) < (s.length:Int))=True:=by simp;omega
  clear hi0 hz0 hz1 hz2;go_in;go_wp2_with fail;refine bodyPost_ret (v:=.tuple #[.slice none 0 0,.int .i64 4]) (by simp [results,Tryz.results43,go_sem, *] <;> trivial) rfl ?_;exact ⟨4,[],.big hbig rfl rfl,none,0,0,rfl,TkS.nil _,aa w⟩
 have hlen:((65536:Int) < (s.length:Int))=False:=by simp;omega
 have hs:s.length < 4611686018427387904:=by omega
 have HI:=Qh (And.intro hi0 (And.intro hz0 (And.intro hz1 hz2)));clear hi0 hz0 hz1 hz2;go_in;go_wp2_with fail;go_loopw [4,5,6,7] (fun ov lv sv iv wr=>∃ (done:List Tkn) (i line col:Nat),lv=.int .i64 (line:Nat)∧sv=.int .i64 (col:Nat)∧iv=.int .i64 (i:Nat)∧i≤s.length∧col≤i+1∧line≤i+1∧done.length≤i∧Hid (dC s=pre done (tk (s.drop i) line col))∧wr.ownsRow w.heap.size 123 4 ov done.length (cM done)∧Below w.heap.size w wr) (fun _ _ _ iv _=>s.length - (intOf iv).toNat)
 case atStart=>exact ⟨[],0,1,1,rfl,rfl,rfl,Nat.zero_le _,by omega,by omega,Qr,Qh (by rw [rT];rfl),⟨rfl,.inl ⟨rfl,rfl⟩⟩,aa w⟩
 case round =>
  obtain ⟨done,i,line,col,rfl,rfl,rfl,hi,hco,hln,hdn,hT,hown,hbel⟩:=hrel;have HO:=Qh hown;clear hown;rcases Nat.lt_or_ge i s.length with hl | hl
  ·have hi1:((i:Int) < (s.length:Int))=True:=by simp;omega
   have hlts:i < s.length:=hl;obtain ⟨c,hc⟩:∃ c,atB s i=c:=⟨_,rfl⟩;have hget:∀ h,(⟨s.toArray⟩:ByteArray)[i]'h=c:=fun h=>by rw [← hc];exact (cw hl).symm
   by_cases h10:c=10
   ·have q10:(((c.toNat:Nat):Int) == 10)=true:=(am c 10).trans (by simp [h10])
    have hT2:=lJ hl (by rw [hc];exact h10) line col;have hb2:gQ c=true:=by rw [h10];rfl
    clear h10;go_wp2_with fail;(with_reducible refine (jM _ c true (by exact hb2)).mono ?_);rintro e w1 ⟨rfl,hb1⟩;have HO2:=Qh (dK HO.out hb1);have hbel2:=hbel.trans (hb1.mono hbel.size);clear hb1;go_wp2_with fail;go_roundw
    case rel=>exact ⟨done,i+1,line+1,1,by go_num,rfl,by go_num,by omega,by omega,by omega,by omega,Qh (by rw [hT.out,hT2]),HO2.out,hbel2⟩
    case measure=>simp [intOf];omega
   have q10:(((c.toNat:Nat):Int) == 10)=false:=(am c 10).trans (by simp [h10]);by_cases hbk:dB c=true
   ·have hT2:=ky hl (by rw [hc];exact hbk) line col
    have hb2:gQ c=true:=by unfold dB at hbk;unfold gQ;rcases isBlk_3 (by unfold dB;exact hbk) with e | e | e <;> rw [e] <;> rfl
    go_wp2_with fail;(with_reducible refine (jM _ c true (by exact hb2)).mono ?_);rintro e w1 ⟨rfl,hb1⟩;have HO2:=Qh (dK HO.out hb1);have hbel2:=hbel.trans (hb1.mono hbel.size);clear hb1;go_wp2_with fail;go_roundw
    case rel=>exact ⟨done,i+1,line,col+1,rfl,by go_num,by go_num,by omega,by omega,by omega,by omega,Qh (by rw [hT.out,hT2]),HO2.out,hbel2⟩
    case measure=>simp [intOf];omega
   have hbk:dB c=false:=by simpa using hbk
   have hb2:gQ c=false:=by
    have a1:c≠32:=by rintro rfl;exact absurd hbk (by decide)
    have a2:c≠9:=by rintro rfl;exact absurd hbk (by decide)
    have a3:c≠13:=by rintro rfl;exact absurd hbk (by decide)
    unfold gQ;rw [beq_eq_false_iff_ne.2 a1,beq_eq_false_iff_ne.2 a2,beq_eq_false_iff_ne.2 a3,beq_eq_false_iff_ne.2 h10];rfl
   by_cases h37:c=37
   ·have q37:(((c.toNat:Nat):Int) == 37)=true:=(am c 37).trans (by simp [h37])
    obtain ⟨hcp,hT2⟩:=nr hl (by rw [hc];exact h37) line col;clear h37 hc;go_wp2_with fail;(with_reducible refine (jM _ c false (by exact hb2)).mono ?_);rintro e w1 ⟨rfl,hb1⟩;have HO2:=Qh (dK HO.out hb1);have hbel2:=hbel.trans (hb1.mono hbel.size);clear hb1;go_wp2_with fail;clear q10 q37 hget h10 hbk hb2;go_loopw [6,7] (fun kv jv w2=>∃ (j:Nat),kv=.int .i64 ((col+(j - i):Nat):Int)∧jv=.int .i64 (j:Nat)∧i≤j∧j≤s.length∧Hid (j+dw (s.drop j)=i+dw (s.drop i))∧w1=w2) (fun _ jv _=>s.length - (intOf jv).toNat)
    case atStart=>exact ⟨i,by simp,rfl,Qr,hi,Qh rfl,by first | rfl | trivial⟩
    case round =>
     obtain ⟨j,rfl,rfl,hij,hj,hcj,hw2⟩:=hrel;subst hw2;rcases Nat.lt_or_ge j s.length with hjl | hjl
     ·have hlj:j < s.length:=hjl
      have hj1:((j:Int) < (s.length:Int))=True:=by simp;omega
      obtain ⟨d,hd⟩:∃ d,atB s j=d:=⟨_,rfl⟩;have hget:∀ h,(⟨s.toArray⟩:ByteArray)[j]'h=d:=fun h=>by rw [← hd];exact (cw hjl).symm
      by_cases hd10:d=10
      ·have e10:(((d.toNat:Nat):Int) == 10)=true:=(am d 10).trans (by simp [hd10])
       have hst0:=iw (s:=s) (j:=j) (.inr (by rw [hd];exact hd10));have hjn:i+dw (s.drop i)=j:=by have:=hcj.out;omega
       clear hd hd10;go_wp2_with fail;go_roundw
       case rel=>exact ⟨done,j,line,col+(j - i),rfl,rfl,rfl,hj,by omega,by omega,by omega,Qh (by rw [hT.out,hT2,hjn,show dw (s.drop i)=j - i by have:=hcj.out;omega]),HO2.out,hbel2⟩
       case measure=>simp [intOf];omega
      have e10:(((d.toNat:Nat):Int) == 10)=false:=(am d 10).trans (by simp [hd10]);have hst9:=nq hjl (by rw [hd];exact hd10);clear hd hd10;go_wp2_with fail;go_roundw
      case rel=>exact ⟨j+1,by go_num,by go_num,by omega,by omega,Qh (by have h9:=hcj.out;rw [hst9] at h9;omega),by first | rfl | trivial⟩
      case measure=>simp [intOf];omega
     have hj1:((j:Int) < (s.length:Int))=False:=by simp;omega
     have hst0:=iw (s:=s) (j:=j) (.inl hjl);have hjn:i+dw (s.drop i)=j:=by have:=hcj.out;omega
     go_wp2_with fail;go_roundw
     case rel=>exact ⟨done,j,line,col+(j - i),rfl,rfl,rfl,hj,by omega,by omega,by omega,Qh (by rw [hT.out,hT2,hjn,show dw (s.drop i)=j - i by have:=hcj.out;omega]),HO2.out,hbel2⟩
     case measure=>simp [intOf];omega
   have q37:(((c.toNat:Nat):Int) == 37)=false:=(am c 37).trans (by simp [h37]);obtain ⟨r,hr⟩:∃ r,s.drop i=r:=⟨_,rfl⟩;have hrl:r.length=s.length - i:=by rw [← hr,List.length_drop]
   have e2:(⟨s.toArray⟩:ByteArray).extract i s.length=⟨r.toArray⟩:=by
    rw [fQ,hr,List.take_of_length_le (by omega)]
   have hi0:(0:Int)≤(i:Int):=by omega
   have hiL:(i:Int)≤(s.length:Int):=by omega
   cases hf:aV (s.drop i) with
   | err x =>
    have hT2:=nw hl hf (by rw [hc];exact h10) (by rw [hc];exact hbk) (by rw [hc];exact h37) line col;have hx0:=kA hf;have hx1:((x:Int) == 0)=false:=by simp;omega
    go_wp2_with fail;(with_reducible refine (jM _ c false (by exact hb2)).mono ?_);rintro e w1 ⟨rfl,hb1⟩;have HO2:=Qh (dK HO.out hb1);have hbel2:=hbel.trans (hb1.mono hbel.size);clear hb1;go_wp2_with fail;(with_reducible refine (qU _ s i hl hs x hf).mono ?_);rintro e w2 ⟨rfl,hb9⟩;go_wp2_with fail;refine bodyPost_ret (v:=.tuple #[.slice none 0 0,.int .i64 (x:Nat)]) (by simp [results,Tryz.results43,go_sem, *] <;> trivial) rfl ?_;refine ⟨(x:Int),[],.err x hsm (by rw [hT.out,hT2];rfl) rfl rfl,none,0,0,rfl,TkS.nil _,hbel2.trans (hb9.mono hbel2.size)⟩
   | ok k n =>
    have hfk:=dt hf;rw [List.length_drop] at hfk;have hT2:=nt hl hf line col;obtain ⟨x,hx⟩:∃ x,(s.drop i).take n=x:=⟨_,rfl⟩;rw [hx] at hT2;have hwin:IntKind.i64.wrap ((i:Int)+(n:Int))=(i:Int)+(n:Int):=IntWalk.i64_in _ ⟨by omega,by omega⟩;have htn:((i:Int)+(n:Int)).toNat=i+n:=by omega
    have e3:(⟨s.toArray⟩:ByteArray).extract i (i+n)=⟨x.toArray⟩:=by
     rw [fQ,← hx,show i+n - i=n by omega]
    have hn0:(0:Int)≤(i:Int)+(n:Int):=by omega
    have hn1:(i:Int)+(n:Int)≤(s.length:Int):=by omega
    have hn2:(i:Int)≤(i:Int)+(n:Int):=by omega
    have hws:IntKind.i64.wrap ((i:Int)+(n:Int) - (i:Int))=(n:Int):=by rw [show (i:Int)+(n:Int) - (i:Int)=(n:Int) by omega];exact IntWalk.i64_in _ ⟨by omega,by omega⟩
    have hws2:IntKind.i64.wrap (n:Int)=(n:Int):=IntWalk.i64_in _ ⟨by omega,by omega⟩;go_wp2_with fail;(with_reducible refine (jM _ c false (by exact hb2)).mono ?_);rintro e w1 ⟨rfl,hb1⟩;have HO2:=Qh (dK HO.out hb1);have hbel2:=hbel.trans (hb1.mono hbel.size);clear hb1;go_wp2_with fail;(with_reducible refine (tF _ s i hl hs k n hf).mono ?_);rintro e w2 ⟨rfl,hb9⟩;have HO3:=Qh (dK HO2.out hb9);have hbel3:=hbel2.trans (hb9.mono hbel2.size);clear hb9;go_wp2_with (at_builtin;refine wpList_append_lies _ rfl _ _ _ rfl w.heap.size 123 i0 (.agg #[.int .i64 0,.string ⟨#[]⟩,.int .i64 0,.int .i64 0]) 4 40 Tryz.underlying82 HI.out.1 HI.out.2.1 HI.out.2.2.1 HI.out.2.2.2 rfl (by omega) _ done.length (cM done) rfl (HO3.out.alloc _) ⟨w2.heap.size,0,none⟩ 1 1 [_,_,_,_] rfl rfl (World.news_of_block (heap_alloc_new w2 _)) (by simp [Value.oneCell']) (by omega) (by unfold maxLen;omega) (by omega) (by have:=hbel3.size;simp;omega) (w2.heap.size+1) (by simp) ?_;intro gx cap w9 hown1 hgrow hat hlt1);go_roundw
    case rel =>
     refine ⟨done ++ [⟨k,x,line,col⟩],i+n,line,col+n,rfl,by go_num,by go_num,by omega,by omega,by omega,by rw [List.length_append,List.length_singleton];omega,Qh ?_,?_,(hbel3.alloc hbel3.size _).grown hgrow (by have:=hbel3.size;simp;omega) (fO HO3.out)⟩
     ·rw [hT.out,hT2,pQ]
     rw [lI,List.length_append,List.length_singleton];have e:([.int .i64 (k:Nat),ae x,.int .i64 (line:Nat),.int .i64 (col:Nat)]:List Value)=mB ⟨k,x,line,col⟩:=by unfold mB;simp;try omega
     rw [← e];exact hown1
    case measure=>simp [intOf];omega
  have hi1:((i:Int) < (s.length:Int))=False:=by simp;omega
  obtain rfl:i=s.length:=by omega
  obtain ⟨A,cc,hv,hS⟩:=TkS.of_own HO.out;subst hv;go_wp2_with fail;refine bodyPost_ret (v:=.tuple #[.slice A done.length cc,.int .i64 0]) (by simp [results,Tryz.results43,go_sem, *] <;> trivial) rfl ?_;exact ⟨0,done,.ok hsm (by rw [hT.out,List.drop_length,qK];simp [pre]) rfl,A,done.length,cc,rfl,hS,hbel⟩
theorem vJ {l:List Tkn}{i:Nat}(h:i < l.length):(cM l)[i * 4]?=some (.int .i64 (l[i].kind:Nat))∧(cM l)[i * 4+1]?=some (ae l[i].text)∧(cM l)[i * 4+2]?=some (.int .i64 (l[i].line:Nat))∧(cM l)[i * 4+3]?=some (.int .i64 (l[i].col:Nat)):=by
 induction l generalizing i with
 | nil=>simp at h
 | cons t l ih =>
  have e:cM (t :: l)=[.int .i64 (t.kind:Nat),ae t.text,.int .i64 (t.line:Nat),.int .i64 (t.col:Nat)] ++ cM l:=rfl;rw [e]
  cases i with
  | zero=>simp
  | succ i =>
   have h1:=ih (i:=i) (by simpa using h);have s:(i+1) * 4=i * 4+4:=by omega
   rw [s];simp only [List.getElem_cons_succ];refine ⟨?_,?_,?_,?_⟩
   ·rw [List.getElem?_append_right (by simp)];exact h1.1
   ·rw [List.getElem?_append_right (by simp)];exact h1.2.1
   ·rw [List.getElem?_append_right (by simp)];exact h1.2.2.1
   rw [List.getElem?_append_right (by simp)];exact h1.2.2.2
theorem TkS.cells {w:World}{A:Option Addr}{n c:Nat}{l:List Tkn}(h:TkS w A n c l) {i:Nat}(hi:i < n):∃ g t,A=some ⟨g,0,none⟩∧n≤c∧l[i]?=some t∧w.cell? ⟨g,i * 4,none⟩=some (.int .i64 (t.kind:Nat))∧w.cell? ⟨g,i * 4+1,none⟩=some (ae t.text)∧w.cell? ⟨g,i * 4+2,none⟩=some (.int .i64 (t.line:Nat))∧w.cell? ⟨g,i * 4+3,none⟩=some (.int .i64 (t.col:Nat)):=by
 have hl:=h.1;rcases h.2 with ⟨h0,_⟩ | ⟨g,e,hc,h2⟩
 ·omega
 have h3:=vJ (l:=l) (i:=i) (by omega);exact ⟨g,_,e,hc,List.getElem?_eq_getElem (by omega),h2 _ _ h3.1,h2 _ _ h3.2.1,h2 _ _ h3.2.2.1,h2 _ _ h3.2.2.2⟩
def aP (s:List UInt8):Bool:=decide (0 < bl s) && decide (bl s=s.length) && decide (bl s≤24)
def rU:List (List UInt8)→List UInt8
  | []=>[]
  | [x]=>x
  | x :: y :: r=>x ++ 32 :: rU (y :: r)
theorem vK (a b:List UInt8):(⟨a.toArray⟩:ByteArray) ++ (⟨b.toArray⟩:ByteArray)=⟨(a ++ b).toArray⟩:=by
 apply ByteArray.ext;simp
theorem lK (w:World) (s:List UInt8) (hs:s.length < 4611686018427387904) (v:Bool) (hv:aP s=v):Calls Tryz.prog 75 #[ae s] w (av w (.bool v)):=by
 have hszs:=bX s;obtain ⟨n,hwn⟩:∃ n,bl s=n:=⟨_,rfl⟩;have hnl:n≤s.length:=by rw [← hwn];exact jH s
 unfold aP at hv;rw [hwn] at hv;rcases (show n=0∨(0 < n∧n≠s.length)∨(0 < n∧n=s.length∧24 < n)∨(0 < n∧n=s.length∧n≤24) by omega) with h1 | ⟨h1,h2⟩ | ⟨h1,h2,h3⟩ | ⟨h1,h2,h3⟩
 ·have g0:((0:Int) < (n:Int))=False:=eq_false (by omega)
  obtain rfl:v=false:=by rw [← hv];simp;omega
  have g8:(n == 0)=true:=by simp;omega
  clear hv;go_in;go_wp2_with fail;(with_reducible refine (dD _ (s) hs n hwn).mono ?_);rintro e w1 ⟨rfl,q1⟩;have bw1:=(aa w).trans (q1.mono (aa w).size);have lw1:=q1.size;clear q1;go_wp2;go_ret;exact bj rfl bw1
 ·have g0:((0:Int) < (n:Int))=True:=eq_true (by omega)
  have g1:((n:Int) == (s.length:Int))=false:=by simp;omega
  obtain rfl:v=false:=by rw [← hv];simp;omega
  clear hv h2;go_in;go_wp2_with fail;(with_reducible refine (dD _ (s) hs n hwn).mono ?_);rintro e w1 ⟨rfl,q1⟩;have bw1:=(aa w).trans (q1.mono (aa w).size);have lw1:=q1.size;clear q1;go_wp2;go_ret;exact bj rfl bw1
 ·have g0:((0:Int) < (n:Int))=True:=eq_true (by omega)
  have g1:((n:Int) == (s.length:Int))=true:=by simp;omega
  have g2:((n:Int)≤24)=False:=eq_false (by omega);obtain rfl:v=false:=by rw [← hv];simp;omega
  clear hv h2;go_in;go_wp2_with fail;(with_reducible refine (dD _ (s) hs n hwn).mono ?_);rintro e w1 ⟨rfl,q1⟩;have bw1:=(aa w).trans (q1.mono (aa w).size);have lw1:=q1.size;clear q1;go_wp2;go_ret;exact bj rfl bw1
 have g0:((0:Int) < (n:Int))=True:=eq_true (by omega);have g1:((n:Int) == (s.length:Int))=true:=by simp;omega
 have g2:((n:Int)≤24)=True:=eq_true (by omega);obtain rfl:v=true:=by rw [← hv,decide_eq_true (show 0 < n by omega),decide_eq_true (show n=s.length by omega),decide_eq_true (show n≤24 by omega)];rfl
 clear hv h2;go_in;go_wp2_with fail;(with_reducible refine (dD _ (s) hs n hwn).mono ?_);rintro e w1 ⟨rfl,q1⟩;have bw1:=(aa w).trans (q1.mono (aa w).size);have lw1:=q1.size;clear q1;go_wp2;go_ret;exact bj rfl bw1
theorem lL (w:World) (s:List UInt8) (hs:s.length < 4611686018427387904) (v:Bool) (hv:aP s=v):Calls Tryz.prog 52 #[ae s] w (av w (.bool v)):=by
 have hszs:=bX s;obtain ⟨n,hwn⟩:∃ n,bl s=n:=⟨_,rfl⟩;have hnl:n≤s.length:=by rw [← hwn];exact jH s
 unfold aP at hv;rw [hwn] at hv;rcases (show s.length=0∨24 < s.length∨(0 < s.length∧s.length≤24∧n≠s.length)∨(0 < s.length∧s.length≤24∧n=s.length) by omega) with h1 | h1 | ⟨h1,h2,h3⟩ | ⟨h1,h2,h3⟩
 ·have g0:((0:Int) < (s.length:Int))=False:=eq_false (by omega)
  obtain rfl:v=false:=by rw [← hv];simp;omega
  clear hv;go_in;go_wp2;go_ret;exact bj (by first | rfl | (simp;omega)) (aa w)
 ·have g0:((0:Int) < (s.length:Int))=True:=eq_true (by omega)
  have g1:((s.length:Int)≤24)=False:=eq_false (by omega);obtain rfl:v=false:=by rw [← hv];simp;omega
  clear hv;go_in;go_wp2;go_ret;exact bj (by first | rfl | (simp;omega)) (aa w)
 ·have g0:((0:Int) < (s.length:Int))=True:=eq_true (by omega)
  have g1:((s.length:Int)≤24)=True:=eq_true (by omega);have g2:((n:Int) == (s.length:Int))=false:=by simp;omega
  obtain rfl:v=false:=by rw [← hv];simp;omega
  clear hv;go_in;go_wp2_with fail;(with_reducible refine (bp _ (s) (0) 0 rfl (Nat.zero_le _) hs (n:Nat) (by rw [List.drop_zero,hwn,Nat.zero_add])).mono ?_);rintro e w1 ⟨rfl,q1⟩;have bw1:=(aa w).trans (q1.mono (aa w).size);have lw1:=q1.size;clear q1;go_wp2;go_ret;exact bj (by first | rfl | (simp;omega)) bw1
 have g0:((0:Int) < (s.length:Int))=True:=eq_true (by omega);have g1:((s.length:Int)≤24)=True:=eq_true (by omega);have g2:((n:Int) == (s.length:Int))=true:=by simp;omega
 obtain rfl:v=true:=by rw [← hv,decide_eq_true (show 0 < n by omega),decide_eq_true (show n=s.length by omega),decide_eq_true (show n≤24 by omega)];rfl
 clear hv;go_in;go_wp2_with fail;(with_reducible refine (bp _ (s) (0) 0 rfl (Nat.zero_le _) hs (n:Nat) (by rw [List.drop_zero,hwn,Nat.zero_add])).mono ?_);rintro e w1 ⟨rfl,q1⟩;have bw1:=(aa w).trans (q1.mono (aa w).size);have lw1:=q1.size;clear q1;go_wp2;go_ret;exact bj (by first | rfl | (simp;omega)) bw1
structure aq where
  name:List UInt8
  x:RD
  y:RD
structure al where
  name:List UInt8
  pts:List aq
structure aN where
  name:List UInt8
  kind:Int
  a:Int
  point:Int
  b:Int
  on:Int
  to_:Int
structure bc where
  name:List UInt8
  body:Int
structure ao where
  name:List UInt8
  bodies:List al
  joints:List aN
  drivers:List bc
def bq {α:Type}(f:List α→α→Int):List α→List α→Int
  | _,[]=>0
  | prev,a :: r=>if f prev a=0 then bq f (prev ++ [a]) r else f prev a
theorem du {α:Type}{f:List α→α→Int}{l:List α}{i:Nat}{x:Int}(h:bq f (l.take i) (l.drop i)=x) {a:α}(ha:l[i]?=some a) :
 (f (l.take i) a=0∧bq f (l.take (i+1)) (l.drop (i+1))=x)∨(f (l.take i) a≠0∧f (l.take i) a=x):=by
 obtain ⟨hl,he⟩:=List.getElem?_eq_some_iff.1 ha;have hd:l.drop i=a :: l.drop (i+1):=by rw [List.drop_eq_getElem_cons hl,he]
 have ht:l.take (i+1)=l.take i ++ [a]:=by rw [List.take_add_one,ha];rfl
 rw [hd] at h;unfold bq at h;rw [ht];split at h
 ·left;rename_i h0;exact ⟨h0,h⟩
 right;rename_i h0;exact ⟨h0,h⟩
theorem eB {α:Type}{f:List α→α→Int}{l:List α}{i:Nat}{x:Int}(h:bq f (l.take i) (l.drop i)=x) (hi:l.length≤i):x=0:=by
 rw [List.drop_eq_nil_of_le hi] at h;exact h.symm
theorem cX {α:Type}{f:List α→α→Int}{l:List α}{x:Int}(h:bq f [] l=x):bq f (l.take 0) (l.drop 0)=x:=h
def twN (l:List (List UInt8)) (n:List UInt8):Bool:=l.any fun m=>m == n
theorem eC {α:Type}{f:α→List UInt8}{l:List α}{j:Nat}{a:α}{nm:List UInt8}(ha:l[j]?=some a) (h:twN ((l.take j).map f) nm=false) (hne:f a≠nm):twN ((l.take (j+1)).map f) nm=false:=by
 have ht:l.take (j+1)=l.take j ++ [a]:=by rw [List.take_add_one,ha];rfl
 unfold twN at h ⊢;rw [ht,List.map_append,List.any_append,h];simpa using hne
theorem dU {α:Type}{f:α→List UInt8}{l:List α}{j i:Nat}{a:α}{nm:List UInt8}(ha:l[j]?=some a) (hji:j < i) (he:f a=nm):twN ((l.take i).map f) nm=true:=by
 unfold twN;rw [List.any_eq_true];refine ⟨f a,?_,by simpa using he⟩;have h1:(l.take i)[j]?=some a:=by rw [List.getElem?_take,if_pos hji];exact ha
 exact List.mem_map_of_mem (List.mem_of_getElem? h1)
def inI (i:Int) (n:Nat):Bool:=decide (0≤i) && decide (i < (n:Int))
def bk (prev:List aq) (m:aq):Int :=
  if aP m.name=false then 5 else if twN (prev.map aq.name) m.name=true then 6 else if m.x.ok=false then 3 else if m.y.ok=false then 3 else 0
def aU (prev:List al) (b:al):Int :=
  if aP b.name=false then 5 else if twN (prev.map al.name) b.name=true then 6 else if 8 < b.pts.length then 4 else bq bk [] b.pts
def cH (L:ao) (i:Int):List aq:=match L.bodies[i.toNat]? with | some b=>b.pts | none=>[]
def eM (l:List aq) (i j:Int):Bool:=match l[i.toNat]?,l[j.toNat]? with | some p,some q=>decide (p.x.q=q.x.q) && decide (p.y.q=q.y.q) | _,_=>false
def bh (L:ao) (j:aN):Int :=
  if j.kind≠0∧j.kind≠1 then 7 else if inI j.a L.bodies.length=false then 9 else if inI j.b L.bodies.length=false then 9 else if j.a=j.b then 13
  else if inI j.point (cH L j.a).length=false then 9 else if inI j.on (cH L j.b).length=false then 9
  else if j.kind=0 then (if j.to_=0 then 0 else 2) else if inI j.to_ (cH L j.b).length=false then 9 else if eM (cH L j.b) j.on j.to_=true then 8 else 0
def aQ (L:ao) (prev:List aN) (j:aN):Int :=
  if aP j.name=false then 5 else if twN (prev.map aN.name) j.name=true then 6 else bh L j
def ax (n:Nat) (prev:List bc) (d:bc):Int :=
  if aP d.name=false then 5 else if twN (prev.map bc.name) d.name=true then 6 else if inI d.body n=false then 9 else if d.body=0 then 7
  else if (prev.any fun p=>p.body == d.body)=true then 6 else 0
def dh (L:ao):Int :=
  if aP L.name=false then 5 else if L.bodies.length=0 then 10 else if 8 < L.bodies.length then 4 else if bq aU [] L.bodies≠0 then bq aU [] L.bodies
  else if 16 < L.joints.length then 4 else if bq (aQ L) [] L.joints≠0 then bq (aQ L) [] L.joints
  else if 2 < L.drivers.length then 4 else bq (ax L.bodies.length) [] L.drivers
theorem tG {q:Rat}(h:q.den=1):bg q=Lib.itoa q.num:=if_pos h
theorem tH {q:Rat}(h:q.den≠1):bg q=Lib.itoa q.num ++ 47 :: Lib.itoa (q.den:Int):=if_neg h
def gS (m:aq):List UInt8:=32 :: (m.name ++ 32 :: (bg m.x.q ++ 32 :: (bg m.y.q ++ [59])))
def pU (b:al):List UInt8:=[98,111,100,121,32] ++ b.name ++ [32,123] ++ b.pts.flatMap gS ++ [32,125]
def rV (m:aq):Prop:=m.name.length≤1000∧Sz m.x.q 40∧Sz m.y.q 40
abbrev NmL (s:List UInt8):Prop:=s.length < 4611686018427387904
def dG (w:World) (g o:Nat) (r:RD) (k:Nat):Prop:=∃ b A n c D m e,w.cell? ⟨g,o,none⟩=some (.bool b)∧w.cell? ⟨g,o+1,none⟩=some (.slice A n c)∧w.cell? ⟨g,o+2,none⟩=some (.slice D m e)∧QD w b A n c D m e r k
def eN (k:Nat) (w:World) (g o:Nat) (m:aq):Prop:=w.cell? ⟨g,o,none⟩=some (ae m.name)∧dG w g (o+1) m.x k∧dG w g (o+4) m.y k∧NmL m.name
def SlS {α:Type}(P:World→Nat→Nat→α→Prop) (s:Nat) (w:World) (A:Option Addr) (n c:Nat) (l:List α):Prop :=
  l.length=n∧n≤c∧(0 < n→∃ g o,A=some ⟨g,o,none⟩∧g < w.heap.size∧∀ i a,l[i]?=some a→P w g (o+i * s) a)
def fD (k:Nat) (w:World) (g o:Nat) (b:al):Prop:=∃ A n c,w.cell? ⟨g,o,none⟩=some (ae b.name)∧w.cell? ⟨g,o+1,none⟩=some (.slice A n c)∧SlS (eN k) 7 w A n c b.pts∧NmL b.name
def kG (w:World) (g o:Nat) (j:aN):Prop:=w.cell? ⟨g,o,none⟩=some (ae j.name)∧w.cell? ⟨g,o+1,none⟩=some (.int .i64 j.kind)∧w.cell? ⟨g,o+2,none⟩=some (.int .i64 j.a)∧w.cell? ⟨g,o+3,none⟩=some (.int .i64 j.point)∧w.cell? ⟨g,o+4,none⟩=some (.int .i64 j.b)∧w.cell? ⟨g,o+5,none⟩=some (.int .i64 j.on)∧w.cell? ⟨g,o+6,none⟩=some (.int .i64 j.to_)∧NmL j.name
def kH (w:World) (g o:Nat) (d:bc):Prop:=w.cell? ⟨g,o,none⟩=some (ae d.name)∧w.cell? ⟨g,o+1,none⟩=some (.int .i64 d.body)∧NmL d.name
structure LkS (k:Nat) (w:World) (A:Option Addr) (n c:Nat) (B:Option Addr) (p d:Nat) (C:Option Addr) (q e:Nat) (L:ao):Prop where
  name:NmL L.name
  bodies:SlS (fD k) 2 w A n c L.bodies
  joints:SlS kG 7 w B p d L.joints
  drivers:SlS kH 2 w C q e L.drivers
theorem aE {w w':World}{g o:Nat}{v:Value}(h:w.cell? ⟨g,o,none⟩=some v) (hb:Below w.heap.size w w'):w'.cell? ⟨g,o,none⟩=some v:=(hb.cell (p:=⟨g,o,none⟩) (World.block_lt_of_cell? w _ h)).trans h
theorem dG.belw {w w':World}{g o:Nat}{r:RD}{k:Nat}(h:dG w g o r k) (hb:Below w.heap.size w w'):dG w' g o r k:=by
 obtain ⟨b,A,n,c,D,m,e,h1,h2,h3,h4⟩:=h;exact ⟨b,A,n,c,D,m,e,aE h1 hb,aE h2 hb,aE h3 hb,h4.belw hb⟩
theorem eN.belw {w w':World}{g o:Nat}{m:aq}{k:Nat}(h:eN k w g o m) (hb:Below w.heap.size w w'):eN k w' g o m:=⟨aE h.1 hb,h.2.1.belw hb,h.2.2.1.belw hb,h.2.2.2⟩
theorem SlS.belw {α:Type}{P:World→Nat→Nat→α→Prop}{s:Nat}{w w':World}{A:Option Addr}{n c:Nat}{l:List α}(hP:∀ g o a,P w g o a→P w' g o a) (h:SlS P s w A n c l) (hb:Below w.heap.size w w'):SlS P s w' A n c l:=by
 refine ⟨h.1,h.2.1,fun hn=>?_⟩;obtain ⟨g,o,e,hg,h3⟩:=h.2.2 hn;exact ⟨g,o,e,Nat.lt_of_lt_of_le hg hb.size,fun i a ha=>hP _ _ _ (h3 i a ha)⟩
theorem fD.belw {w w':World}{g o:Nat}{b:al}{k:Nat}(h:fD k w g o b) (hb:Below w.heap.size w w'):fD k w' g o b:=by
 obtain ⟨A,n,c,h1,h2,h3,h4⟩:=h;exact ⟨A,n,c,aE h1 hb,aE h2 hb,h3.belw (fun _ _ _ h=>h.belw hb) hb,h4⟩
theorem kG.belw {w w':World}{g o:Nat}{j:aN}(h:kG w g o j) (hb:Below w.heap.size w w'):kG w' g o j :=
 ⟨aE h.1 hb,aE h.2.1 hb,aE h.2.2.1 hb,aE h.2.2.2.1 hb,aE h.2.2.2.2.1 hb,aE h.2.2.2.2.2.1 hb,aE h.2.2.2.2.2.2.1 hb,h.2.2.2.2.2.2.2⟩
theorem kH.belw {w w':World}{g o:Nat}{d:bc}(h:kH w g o d) (hb:Below w.heap.size w w'):kH w' g o d:=⟨aE h.1 hb,aE h.2.1 hb,h.2.2⟩
theorem LkS.belw {k:Nat}{w w':World}{A B C:Option Addr}{n c p d q e:Nat}{L:ao}(h:LkS k w A n c B p d C q e L) (hb:Below w.heap.size w w'):LkS k w' A n c B p d C q e L :=
 ⟨h.name,h.bodies.belw (fun _ _ _ h=>h.belw hb) hb,h.joints.belw (fun _ _ _ h=>h.belw hb) hb,h.drivers.belw (fun _ _ _ h=>h.belw hb) hb⟩
theorem SlS.bd {k:Nat}{w w':World}{A:Option Addr}{n c:Nat}{l:List al}(h:SlS (fD k) 2 w A n c l) (hb:Below w.heap.size w w'):SlS (fD k) 2 w' A n c l:=h.belw (fun _ _ _ h=>h.belw hb) hb
theorem SlS.mk_ {k:Nat}{w w':World}{A:Option Addr}{n c:Nat}{l:List aq}(h:SlS (eN k) 7 w A n c l) (hb:Below w.heap.size w w'):SlS (eN k) 7 w' A n c l:=h.belw (fun _ _ _ h=>h.belw hb) hb
theorem SlS.jt {w w':World}{A:Option Addr}{n c:Nat}{l:List aN}(h:SlS kG 7 w A n c l) (hb:Below w.heap.size w w'):SlS kG 7 w' A n c l:=h.belw (fun _ _ _ h=>h.belw hb) hb
theorem SlS.dr {w w':World}{A:Option Addr}{n c:Nat}{l:List bc}(h:SlS kH 2 w A n c l) (hb:Below w.heap.size w w'):SlS kH 2 w' A n c l:=h.belw (fun _ _ _ h=>h.belw hb) hb
theorem SlS.at_ {α:Type}{P:World→Nat→Nat→α→Prop}{s:Nat}{w:World}{A:Option Addr}{n c:Nat}{l:List α}(h:SlS P s w A n c l) {i:Nat}(hi:i < n):∃ g o a,A=some ⟨g,o,none⟩∧g < w.heap.size∧n≤c∧l[i]?=some a∧P w g (o+i * s) a:=by
 obtain ⟨g,o,e,hg,h3⟩:=h.2.2 (by omega);have hl:i < l.length:=by rw [h.1];exact hi
 exact ⟨g,o,l[i],e,hg,h.2.1,List.getElem?_eq_getElem hl,h3 i _ (List.getElem?_eq_getElem hl)⟩
theorem SlS.rowAt {α:Type}{P:World→Nat→Nat→α→Prop}{s:Nat}{w:World}{g o n c:Nat}{l:List α}(h:SlS P s w (some ⟨g,o,none⟩) n c l) {j:Nat}(hj:j < n):∃ a,l[j]?=some a∧P w g (o+j * s) a:=by
 obtain ⟨g',o',a,e,_,_,ha,hp⟩:=h.at_ hj;injection e with e;injection e with e1 e2 _;subst e1 e2;exact ⟨a,ha,hp⟩
def Oth (b:Nat) (w w':World):Prop:=∀ g T cs,g≠b→T≠5→Blk w g T cs→Blk w' g T cs
theorem Oth.refl (b:Nat) (w:World):Oth b w w:=fun _ _ _ _ _ h=>h
theorem Oth.set {b:Nat}{w w':World}(h:Oth b w w') (i:Nat) (u:Value):Oth b w (w'.setCell ⟨b,i,none⟩ u):=fun g T cs hg hT hb=>(h g T cs hg hT hb).far hg u
def Bu (B b:Nat) (w:World) (l:List UInt8):Prop:=Lib.IsBuilder 70 5 B b (Lib.byteCells l) w∧B≤w.heap.size
theorem BuilderAt.belw {T e:TypeId}{B b:Nat}{p:Value}{bs:List Value}{w w':World}(h:Lib.BuilderAt T e B b p bs w) (hb:Below w.heap.size w w'):Lib.BuilderAt T e B b p bs w':=by
 have hlt:=h.lt;obtain ⟨hB,v,hk,hown,hne⟩:=h;refine ⟨hB,v,(hb.block b hlt).trans hk,⟨hown.1,?_⟩,hne⟩;rcases hown.2 with h1 | ⟨g,cap,cur,h1,h2,h3,h4⟩
 ·exact Or.inl h1
 refine Or.inr ⟨g,cap,cur,h1,h2,(hb.block g ?_).trans h3,h4⟩;exact lt_of_block h3
theorem Bu.belw {B b:Nat}{w w':World}{l:List UInt8}(h:Bu B b w l) (hb:Below w.heap.size w w'):Bu B b w' l :=
 ⟨h.1.imp (fun x=>BuilderAt.belw x hb) (fun x=>BuilderAt.belw x hb),Nat.le_trans h.2 hb.size⟩
theorem Bu.lt {B b:Nat}{w:World}{l:List UInt8}(h:Bu B b w l):b < w.heap.size:=h.1.elim (fun x=>x.lt) (fun x=>x.lt)
theorem Bu.new {w:World}:Bu w.heap.size w.heap.size (w.alloc (.cells #[.pointer none,.slice none 0 0] 70)) [] :=
 ⟨Lib.fresh_isBuilder _ _ w,by simp⟩
theorem Blk.c7 {w:World}{g t:Nat}{a0 a1 a2 a3 a4 a5 a6:Value}(h:Blk w g t #[a0,a1,a2,a3,a4,a5,a6]):w.cell? ⟨g,0,none⟩=some a0∧w.cell? ⟨g,1,none⟩=some a1∧w.cell? ⟨g,2,none⟩=some a2∧w.cell? ⟨g,3,none⟩=some a3∧w.cell? ⟨g,4,none⟩=some a4∧w.cell? ⟨g,5,none⟩=some a5∧w.cell? ⟨g,6,none⟩=some a6:=⟨h.cell 0,h.cell 1,h.cell 2,h.cell 3,h.cell 4,h.cell 5,h.cell 6⟩
theorem eN.short {w:World}{g o:Nat}{m:aq}(h:eN 40 w g o m) (hm:m.name.length≤1000):rV m:=by
 obtain ⟨_,⟨b,A,n,c,D,m1,e,_,_,_,h1⟩,⟨b',A',n',c',D',m1',e',_,_,_,h2⟩,_⟩:=h;exact ⟨hm,h1.sz (by decide),h2.sz (by decide)⟩
theorem SlS.short {w:World}{A:Option Addr}{n c:Nat}{l:List aq}(h:SlS (eN 40) 7 w A n c l) (hms:∀ m∈l,m.name.length≤1000):∀ m∈l,rV m:=by
 intro m hm;obtain ⟨i,hi,e⟩:=List.getElem_of_mem hm;obtain ⟨g,o,a,_,_,_,ha,hp⟩:=h.at_ (i:=i) (by rw [← h.1];exact hi);rw [List.getElem?_eq_getElem hi] at ha;injection ha with ha;rw [← ha,e] at hp;exact hp.short (hms m hm)
def vL (m:aq):Bool:=decide (60 < (bg m.x.q).length) || decide (60 < (bg m.y.q).length)
def rX (l:List al):Bool:=l.any fun b=>b.pts.any vL
theorem dL (w:World) (i:Int) (n:Nat) (v:Bool) (hv:inI i n=v):Calls Tryz.prog 114 #[.int .i64 i,.int .i64 (n:Nat)] w (fun e w'=>e=.returned (.bool v)∧w'=w):=by
 subst hv;by_cases h1:0≤i
 ·by_cases h2:i < (n:Int)
  ·have e:inI i n=true:=by unfold inI;simp [h1,h2]
   rw [e];have f1:(0≤i)=True:=eq_true h1;have f2:(i < (n:Int))=True:=eq_true h2;go_in;go_wp2;go_ret;exact ⟨rfl,rfl⟩
  have e:inI i n=false:=by unfold inI;simp [h2]
  rw [e];have f1:(0≤i)=True:=eq_true h1;have f2:(i < (n:Int))=False:=eq_false h2;go_in;go_wp2;go_ret;exact ⟨rfl,rfl⟩
 have e:inI i n=false:=by unfold inI;simp [h1]
 rw [e];have f1:(0≤i)=False:=eq_false h1;go_in;go_wp2;go_ret;exact ⟨rfl,rfl⟩
theorem tI (w:World) (i:Int) (n:Nat) (v:Bool) (hv:inI i n=v):Calls Tryz.prog 114 #[.int .i64 i,.int .i64 (n:Nat)] w (av w (.bool v)):=(dL w i n v hv).mono fun _ _ ⟨h1,h2⟩=>⟨h1,h2 ▸ aa _⟩
theorem vM (w:World) (A:Option Addr) (n c:Nat) (l:List al) (k:Nat) (h:SlS (fD k) 2 w A n c l) (hk:k≤300000000) (hn:n≤1000) (x:Int) (hx:bq aU [] l=x):Calls Tryz.prog 76 #[.slice A n c] w (av w (cD x)):=by
 have hnc:=h.2.1;have HX:=Qh (cX hx);clear hx;go_in;go_wp2_with fail;go_loopw [13] (fun iv wr=>∃ i:Nat,iv=.int .i64 (i:Nat)∧i≤n∧Hid (bq aU (l.take i) (l.drop i)=x)∧Below w.heap.size w wr) (fun iv _=>n - (intOf iv).toNat)
 case atStart=>exact ⟨0,rfl,Nat.zero_le _,HX,aa w⟩
 case round =>
  clear HX;obtain ⟨i,rfl,hi,HX,hb⟩:=hrel;rename World=>wa;rcases Nat.lt_or_ge i n with hlt | hge
  ·have hi1:((i:Int) < (n:Int))=True:=by simp;omega
   obtain ⟨g,o,b,e,hg,_,hbi,hB⟩:=(h.bd hb).at_ hlt;subst e;have hstep:=du HX.out hbi;obtain ⟨A',n',c',c0,c1,hM,hnm⟩:=hB;have HR:=Qh (h.bd hb);have HM:=Qh hM;have HS:=Qh hstep;have HN:=Qh hnm;have HB:=Qh hbi;obtain ⟨v,hv⟩:∃ v,aP b.name=v:=⟨_,rfl⟩;have HV:=Qh hv;clear h hM hstep hnm hbi hv HX;go_wp2_with fail;(with_reducible refine (lK _ b.name HN.out v HV.out).mono ?_);rintro e w1 ⟨rfl,hb1⟩;have q1:=hb1.q1;have x1:Blk w1 wa.heap.size 62 #[ae b.name,.slice A' n' c']:=(ah _ _ _ (by simp)).below hb1 (by simp);have bw1:=hb.trans (q1.mono hb.size);clear hb1;cases v
   ·have h5:x=5:=by
     have e5:aU (l.take i) b=5:=if_pos HV.out;rcases HS.out with ⟨z,_⟩ | ⟨_,z⟩
     ·rw [e5] at z;cases z
     rw [← z,e5]
    go_wp2;go_ret;exact ⟨by rw [h5];rfl,bw1⟩
   obtain ⟨cB0,cB1⟩:=x1.c2;go_wp2_with fail;clear cB0 cB1;go_loopw [27] (fun jv w2=>∃ j:Nat,jv=.int .i64 (j:Nat)∧j≤i∧Hid (twN ((l.take j).map al.name) b.name=false)∧Below w1.heap.size w1 w2) (fun jv _=>i - (intOf jv).toNat)
   case atStart=>exact ⟨0,rfl,Nat.zero_le _,Qh rfl,aa w1⟩
   case round =>
    obtain ⟨j,rfl,hj,HT,hb2⟩:=hrel;rename World=>w2;have x2:=x1.below hb2 x1.lt;have bw2:=bw1.trans (hb2.mono bw1.size);obtain ⟨cB0,cB1⟩:=x2.c2;have hlw:wa.heap.size < w2.heap.size:=x2.lt;rcases Nat.lt_or_ge j i with hjl | hjg
    ·have hj1:((j:Int) < (i:Int))=True:=by simp;omega
     have hjn:j < n:=by omega
     obtain ⟨a,ha,hA⟩:=((HR.out.bd q1).bd hb2).rowAt hjn;obtain ⟨A2,n2,c2,d0,d1,hM2,hn2⟩:=hA;have hgw:g < w2.heap.size:=by have:=hb2.size;have:=q1.size;omega
     clear hM2 hn2;have hne1:¬ wa.heap.size=w2.heap.size:=by omega
     have hne2:¬ g=w2.heap.size:=by omega
     have htl:=az b.name;by_cases heq:a.name=b.name
     ·have h6:x=6:=by
       have e6:aU (l.take i) b=6:=by
        unfold aU;rw [HV.out,if_neg (by decide),if_pos (dU ha hjl heq)]
       rcases HS.out with ⟨z,_⟩ | ⟨_,z⟩
       ·rw [e6] at z;cases z
       rw [← z,e6]
      rw [heq] at d0;have hee:(b.name == b.name)=true:=by simp
      clear heq ha;go_wp2;go_ret;exact ⟨by rw [h6];rfl,bw2.alloc bw2.size _⟩
     have hta:=az a.name;have HT2:=Qh (eC ha HT.out heq);have hee:(a.name == b.name)=false:=beq_eq_false_iff_ne.2 heq;clear heq ha HT;go_wp2_with fail;go_roundw
     case rel=>exact ⟨j+1,by go_num,by omega,HT2,hb2.alloc hb2.size _⟩
     case measure=>simp [intOf];omega
    have hj1:((j:Int) < (i:Int))=False:=by simp;omega
    obtain rfl:j=i:=by omega
    clear cB0 cB1 c0 c1;have hlen':b.pts.length=n':=HM.out.1;by_cases h8:8 < n'
    ·have f8:((8:Int) < (n':Int))=True:=eq_true (by omega)
     have h4:x=4:=by
      have e4:aU (l.take j) b=4:=by
       unfold aU;rw [HV.out,if_neg (by decide),HT.out,if_neg (by decide),if_pos (by rw [hlen'];exact h8)]
      rcases HS.out with ⟨z,_⟩ | ⟨_,z⟩
      ·rw [e4] at z;cases z
      rw [← z,e4]
     obtain ⟨cB0,cB1⟩:=x2.c2;clear hlen';go_wp2;go_ret;exact ⟨by rw [h4];rfl,bw2⟩
    have f8:((8:Int) < (n':Int))=False:=eq_false (by omega);obtain ⟨y,hy⟩:∃ y,bq bk [] b.pts=y:=⟨_,rfl⟩
    have HE:Hid (aU (l.take j) b=y):=Qh (by
     unfold aU;rw [HV.out,if_neg (by decide),HT.out,if_neg (by decide),if_neg (by rw [hlen'];exact h8)]
     exact hy)
    have HP:=Qh (cX hy);have HM2:=Qh ((HM.out.mk_ q1).mk_ hb2);obtain ⟨cB0,cB1⟩:=x2.c2;clear hy hlen' HV HT HM;go_wp2_with fail;clear cB0 cB1;go_loopw [46] (fun pv wr=>∃ p:Nat,pv=.int .i64 (p:Nat)∧p≤n'∧Hid (bq bk (b.pts.take p) (b.pts.drop p)=y)∧Below w2.heap.size w2 wr) (fun pv _=>n' - (intOf pv).toNat)
    case atStart=>exact ⟨0,rfl,Nat.zero_le _,HP,aa w2⟩
    case round =>
     clear HP;obtain ⟨p,rfl,hp,HP,hb3⟩:=hrel;rename World=>w3;have x3:=x2.below hb3 x2.lt;have bw3:=bw2.trans (hb3.mono bw2.size);have hlw3:wa.heap.size < w3.heap.size:=x3.lt;rcases Nat.lt_or_ge p n' with hpl | hpg
     ·have hp1:((p:Int) < (n':Int))=True:=by simp;omega
      obtain ⟨g',o',m,e,hg',_,hmp,hMk⟩:=(HM2.out.mk_ hb3).at_ hpl;subst e;have hst:=du HP.out hmp;obtain ⟨d0,⟨b1,A1,n1,c1,D1,m1,e1,d1,d2,d3,hQ1⟩,⟨b2,A2,n2,c2,D2,m2,e2,d4,d5,d6,hQ2⟩,hmn⟩:=hMk;have d2:w3.cell? ⟨g',o'+p * 7+2,none⟩=some (.slice A1 n1 c1):=d2;have d3:w3.cell? ⟨g',o'+p * 7+3,none⟩=some (.slice D1 m1 e1):=d3;have d5:w3.cell? ⟨g',o'+p * 7+5,none⟩=some (.slice A2 n2 c2):=d5;have d6:w3.cell? ⟨g',o'+p * 7+6,none⟩=some (.slice D2 m2 e2):=d6;obtain ⟨cC0,cC1⟩:=x3.c2;have HST:=Qh hst;have HQ1:=Qh hQ1;have HQ2:=Qh hQ2;have HMN:=Qh hmn;have HMP:=Qh hmp;have HM3:=Qh (HM2.out.mk_ hb3);obtain ⟨v,hv⟩:∃ v,aP m.name=v:=⟨_,rfl⟩;have HV:=Qh hv;clear hst hQ1 hQ2 hmn hmp hv HM2 HP;go_wp2_with fail;(with_reducible refine (lK _ m.name HMN.out v HV.out).mono ?_);rintro e w4 ⟨rfl,hb4⟩;have q4:=hb4.q1;have x4:Blk w4 w3.heap.size 67 #[ae m.name,.bool b1,.slice A1 n1 c1,.slice D1 m1 e1,.bool b2,.slice A2 n2 c2,.slice D2 m2 e2]:=(ah _ _ _ (by simp)).below hb4 (by simp);have x3b:=x3.below q4 x3.lt;have bw4:=bw3.trans (q4.mono bw3.size);clear hb4 d0 d1 d2 d3 d4 d5 d6 cC0 cC1
      have hxy:∀ z:Int,z≠0→bk (b.pts.take p) m=z→x=z:=fun z hz hm=>by
       have hy:y=z:=by
        rcases HST.out with ⟨u,_⟩ | ⟨_,u⟩
        ·exact absurd (hm.symm.trans u) hz
        exact u.symm.trans hm
       rcases HS.out with ⟨u,_⟩ | ⟨_,u⟩
       ·exact absurd (hy.symm.trans (HE.out.symm.trans u)) hz
       rw [← u,HE.out,hy]
      cases v
      ·have h5:x=5:=hxy 5 (by decide) (if_pos HV.out)
       clear hxy;go_wp2;go_ret;exact ⟨by rw [h5];rfl,bw4⟩
      have HXY:=Qh hxy;clear hxy;obtain ⟨cC0,cC1⟩:=x3b.c2;go_wp2_with fail;clear cC0 cC1;go_loopw [61] (fun jv wr=>∃ r:Nat,jv=.int .i64 (r:Nat)∧r≤p∧Hid (twN ((b.pts.take r).map aq.name) m.name=false)∧Below w4.heap.size w4 wr) (fun jv _=>p - (intOf jv).toNat)
      case atStart=>exact ⟨0,rfl,Nat.zero_le _,Qh rfl,aa w4⟩
      case round =>
       obtain ⟨r,rfl,hr,HT,hb5⟩:=hrel;rename World=>w5;have x5:=x4.below hb5 x4.lt;have bw5:=bw4.trans (hb5.mono bw4.size);have cD0:=x5.cell 0;have hlw5:w3.heap.size < w5.heap.size:=x5.lt;rcases Nat.lt_or_ge r p with hrl | hrg
       ·have hr1:((r:Int) < (p:Int))=True:=by simp;omega
        have hrn:r < n':=by omega
        obtain ⟨a,ha,hA⟩:=((HM3.out.mk_ q4).mk_ hb5).rowAt hrn;obtain ⟨d0,⟨b3,A3,n3,c3,D3,m3,e3,d1,d2,d3,hQ3⟩,⟨b4,A4,n4,c4,D4,m4,e4,d4,d5,d6,hQ4⟩,hmn3⟩:=hA;have hgw:g' < w5.heap.size:=by have:=hb5.size;have:=q4.size;omega
        have d2:w5.cell? ⟨g',o'+r * 7+2,none⟩=some (.slice A3 n3 c3):=d2;have d3:w5.cell? ⟨g',o'+r * 7+3,none⟩=some (.slice D3 m3 e3):=d3;have d5:w5.cell? ⟨g',o'+r * 7+5,none⟩=some (.slice A4 n4 c4):=d5;have d6:w5.cell? ⟨g',o'+r * 7+6,none⟩=some (.slice D4 m4 e4):=d6;clear hQ3 hQ4 hmn3;have hne1:¬ w3.heap.size=w5.heap.size:=by omega
        have hne2:¬ g'=w5.heap.size:=by omega
        have htl:=az m.name;by_cases heq:a.name=m.name
        ·have h6:x=6:=HXY.out 6 (by decide) (by
          unfold bk
          rw [HV.out,if_neg (by decide),if_pos (dU ha hrl heq)])
         rw [heq] at d0;have hee:(m.name == m.name)=true:=by simp
         clear heq ha;go_wp2;go_ret;exact ⟨by rw [h6];rfl,bw5.alloc bw5.size _⟩
        have hta:=az a.name;have HT2:=Qh (eC ha HT.out heq);have hee:(a.name == m.name)=false:=beq_eq_false_iff_ne.2 heq;clear heq ha HT;go_wp2_with fail;go_roundw
        case rel=>exact ⟨r+1,by go_num,by omega,HT2,hb5.alloc hb5.size _⟩
        case measure=>simp [intOf];omega
       have hr1:((r:Int) < (p:Int))=False:=by simp;omega
       obtain rfl:r=p:=by omega
       have cD1:=x5.cell 1;have cD2:=x5.cell 2;have cD3:=x5.cell 3;obtain ⟨v1,hv1⟩:∃ v,m.x.ok=v:=⟨_,rfl⟩;obtain ⟨v2,hv2⟩:∃ v,m.y.ok=v:=⟨_,rfl⟩;have HV1:=Qh hv1;have HV2:=Qh hv2;clear hv1 hv2;go_wp2_with fail;(with_reducible refine (il _ b1 A1 n1 c1 D1 m1 e1 m.x k v1 ((HQ1.out.belw q4).belw hb5) hk HV1.out).mono ?_);rintro e w6 ⟨rfl,hb6⟩;have x6:=x5.below hb6 x5.lt;have bw6:=bw5.trans (hb6.mono bw5.size);clear cD0 cD1 cD2 cD3
       have hE3:v1=false∨v2=false→bk (b.pts.take r) m=3:=fun hh=>by
        unfold bk;rw [HV.out,if_neg (by decide),HT.out,if_neg (by decide),HV1.out,HV2.out];rcases hh with e | e
        ·rw [e,if_pos rfl]
        rw [e];cases v1
        ·rfl
        rfl
       have HE3:=Qh hE3;clear hE3;cases v1
       ·have h3:x=3:=HXY.out 3 (by decide) (HE3.out (.inl rfl))
        go_wp2;go_ret;exact ⟨by rw [h3];rfl,bw6⟩
       have cE4:=x6.cell 4;have cE5:=x6.cell 5;have cE6:=x6.cell 6;have hlw6:w3.heap.size < w6.heap.size:=x6.lt;go_wp2_with fail;(with_reducible refine (il _ b2 A2 n2 c2 D2 m2 e2 m.y k v2 (((HQ2.out.belw q4).belw hb5).belw hb6) hk HV2.out).mono ?_);rintro e w7 ⟨rfl,hb7⟩;have bw7:=bw6.trans (hb7.mono bw6.size);have hb37:Below w2.heap.size w2 w7:=(((hb3.trans (q4.mono hb3.size)).trans (hb5.mono (Nat.le_trans hb3.size q4.size))).trans (hb6.mono (Nat.le_trans (Nat.le_trans hb3.size q4.size) hb5.size))).trans (hb7.mono (Nat.le_trans (Nat.le_trans (Nat.le_trans hb3.size q4.size) hb5.size) hb6.size));clear cE4 cE5 cE6;cases v2
       ·have h3:x=3:=HXY.out 3 (by decide) (HE3.out (.inr rfl))
        go_wp2;go_ret;exact ⟨by rw [h3];rfl,bw7⟩
       ·have h0:bk (b.pts.take r) m=0:=by
         unfold bk;rw [HV.out,if_neg (by decide),HT.out,if_neg (by decide),HV1.out,HV2.out];rfl
        have HP2:Hid (bq bk (b.pts.take (r+1)) (b.pts.drop (r+1))=y):=Qh (by
         rcases HST.out with ⟨_,u⟩ | ⟨u,_⟩
         ·exact u
         exact absurd h0 u)
        clear h0;go_wp2_with fail;go_roundw
        case rel=>exact ⟨r+1,by go_num,by omega,HP2,hb37⟩
        case measure=>simp [intOf];omega
     have hp1:((p:Int) < (n':Int))=False:=by simp;omega
     have hy0:y=0:=eB HP.out (by rw [HM2.out.1];exact hpg)
     have HX2:Hid (bq aU (l.take (j+1)) (l.drop (j+1))=x):=Qh (by
      rcases HS.out with ⟨_,u⟩ | ⟨u,_⟩
      ·exact u
      exact absurd (HE.out.trans hy0) u)
     clear hy0;go_wp2_with fail;go_roundw
     case rel=>exact ⟨j+1,by go_num,by omega,HX2,bw3⟩
     case measure=>simp [intOf];omega
  have hi1:((i:Int) < (n:Int))=False:=by simp;omega
  have hx0:x=0:=eB HX.out (by rw [h.1];exact hge);go_wp2;go_ret;exact ⟨by rw [hx0];rfl,hb⟩
theorem lM {i:Int}{n:Nat}(h:inI i n=true):∃ m:Nat,i=(m:Int)∧m < n:=by
 unfold inI at h;simp only [Bool.and_eq_true,decide_eq_true_eq] at h;exact ⟨i.toNat,by omega,by omega⟩
theorem tJ (w:World) (A:Option Addr) (n c:Nat) (B:Option Addr) (p d:Nat) (C:Option Addr) (q e:Nat) (nm:List UInt8) (j:aN) (h:j.kind≠0∧j.kind≠1) :
 Calls Tryz.prog 113 #[.agg #[ae nm,.slice A n c,.slice B p d,.slice C q e],.agg #[ae j.name,.int .i64 j.kind,.int .i64 j.a,.int .i64 j.point,.int .i64 j.b,.int .i64 j.on,.int .i64 j.to_]] w (av w (cD 7)):=by
 have e0:(j.kind == 0)=false:=beq_eq_false_iff_ne.2 h.1;have e1:(j.kind == 1)=false:=beq_eq_false_iff_ne.2 h.2;have e2:(j.kind != 0)=true:=bne_iff_ne.2 h.1;have e3:(j.kind != 1)=true:=bne_iff_ne.2 h.2;clear h;go_in;go_wp2;go_ret;exact ⟨rfl,(((aa w).alloc Qr _).alloc (by simp) _)⟩
theorem tK (w:World) (A:Option Addr) (n c:Nat) (B:Option Addr) (p d:Nat) (C:Option Addr) (q e:Nat) (nm:List UInt8) (j:aN) (L:ao) (k:Nat) (h:SlS (fD k) 2 w A n c L.bodies) (hk:k≤10000000) (hk1:0 < k) (hn:n≤1000) (hk0:j.kind=0) (x:Int) (hx:bh L j=x) :
 Calls Tryz.prog 113 #[.agg #[ae nm,.slice A n c,.slice B p d,.slice C q e],.agg #[ae j.name,.int .i64 j.kind,.int .i64 j.a,.int .i64 j.point,.int .i64 j.b,.int .i64 j.on,.int .i64 j.to_]] w (av w (cD x)):=by
 have e0:(j.kind == 0)=true:=beq_iff_eq.2 hk0;have e2:(j.kind != 0)=false:=by rw [hk0];rfl
 have hln:=h.1;have HX:=Qh hx;have HK:=Qh (show ¬ (j.kind≠0∧j.kind≠1) by rw [hk0];decide);have HK0:=Qh hk0;have H:=Qh h;have HL:=Qh hln;obtain ⟨v1,hv1⟩:∃ v,inI j.a n=v:=⟨_,rfl⟩;obtain ⟨v2,hv2⟩:∃ v,inI j.b n=v:=⟨_,rfl⟩;have HV1:=Qh hv1;have HV2:=Qh hv2;clear hx hk0 h hln hv1 hv2;go_in;go_wp2_with fail;(with_reducible refine (tI _ j.a n v1 HV1.out).mono ?_);rintro e' w1 ⟨rfl,hb1⟩;have q1:=hb1.q2;have x1:Blk w1 w.heap.size 36 #[ae nm,.slice A n c,.slice B p d,.slice C q e]:=((ah _ _ _ (by simp)).alloc _).below hb1 (by simp <;> omega);have y1:Blk w1 (w.heap.size+1) 79 #[ae j.name,.int .i64 j.kind,.int .i64 j.a,.int .i64 j.point,.int .i64 j.b,.int .i64 j.on,.int .i64 j.to_]:=(ah _ _ _ (by simp)).below hb1 (by simp);clear hb1;cases v1
 ·have h9:x=9:=by rw [← HX.out];unfold bh;rw [if_neg HK.out,HL.out,if_pos HV1.out]
  go_wp2;go_ret;exact ⟨by rw [h9];rfl,q1⟩
 have cx1:=x1.cell 1;have cy2:=y1.cell 2;have cy4:=y1.cell 4;go_wp2_with fail;(with_reducible refine (tI _ j.b n v2 HV2.out).mono ?_);rintro e' w2 ⟨rfl,hb2⟩;have q2:=q1.trans (hb2.mono q1.size);have x2:=x1.below hb2 x1.lt;have y2:=y1.below hb2 y1.lt;clear cx1 cy2 cy4 hb2 x1 y1;cases v2
 ·have h9:x=9:=by rw [← HX.out];unfold bh;rw [if_neg HK.out,HL.out,if_neg (by rw [HV1.out];decide),if_pos HV2.out]
  go_wp2;go_ret;exact ⟨by rw [h9];rfl,q2⟩
 obtain ⟨an,han,hal⟩:=lM HV1.out;obtain ⟨bn,hbn,hbl⟩:=lM HV2.out;have HA:=Qh han;have HBN:=Qh hbn;have cx1:=x2.cell 1;have cy1:=y2.cell 1;have cy2:=y2.cell 2;have cy3:=y2.cell 3;have cy4:=y2.cell 4;have cy5:=y2.cell 5;have cy6:=y2.cell 6;rw [han] at cy2;rw [hbn] at cy4;clear han hbn;by_cases hab:an=bn
 ·have h13:x=13:=by
   rw [← HX.out];unfold bh;rw [if_neg HK.out,HL.out,if_neg (by rw [HV1.out];decide),if_neg (by rw [HV2.out];decide),if_pos (by rw [HA.out,HBN.out,hab])]
  subst hab;go_wp2;go_ret;exact ⟨by rw [h13];rfl,q2⟩
 have eab:((an:Int) == (bn:Int))=false:=beq_eq_false_iff_ne.2 (by omega);obtain ⟨g,o,bb,e1',hg,hnc,hbb,hBb⟩:=(H.out.bd q2).at_ hbl;subst e1';obtain ⟨ab,hab',hAb⟩:=(H.out.bd q2).rowAt hal;obtain ⟨Ab,nb,cb,k0,k1,hMb,_⟩:=hBb;obtain ⟨Aa,na,ca,l0,l1,hMa,_⟩:=hAb;have hpa:cH L j.a=ab.pts:=by unfold cH;rw [HA.out];show (match L.bodies[an]? with | some b=>b.pts | none=>[])=_;rw [hab']
 have hpb:cH L j.b=bb.pts:=by unfold cH;rw [HBN.out];show (match L.bodies[bn]? with | some b=>b.pts | none=>[])=_;rw [hbb]
 have hla:=hMa.1;have hlb:=hMb.1;have hbn2:((bn:Nat):Int) < ((n:Nat):Int):=by omega
 have han2:((an:Nat):Int) < ((n:Nat):Int):=by omega
 obtain ⟨v3,hv3⟩:∃ v,inI j.point na=v:=⟨_,rfl⟩;obtain ⟨v4,hv4⟩:∃ v,inI j.on nb=v:=⟨_,rfl⟩;have HV3:=Qh hv3;have HV4:=Qh hv4;have HMB:=Qh hMb;have HPA:=Qh hpa;have HPB:=Qh hpb;have HLA:=Qh hla;have HLB:=Qh hlb;have HAB:=Qh (show ¬ j.a=j.b by rw [HA.out,HBN.out];omega);clear hv3 hv4 hMb hMa hpa hpb hla hlb hbb hab' hab;go_wp2_with fail;cases v3
 ·have h9:x=9:=by
   rw [← HX.out];unfold bh;rw [if_neg HK.out,HL.out,if_neg (by rw [HV1.out];decide),if_neg (by rw [HV2.out];decide),if_neg HAB.out,HPA.out,HLA.out,if_pos HV3.out]
  go_quiet ((go_at_call 114;exact Calls.quiet_of_same (dL _ j.point na false HV3.out)));go_wp2;go_ret;exact ⟨by rw [h9];rfl,af q2 _⟩
 cases v4
 ·have h9:x=9:=by
   rw [← HX.out];unfold bh;rw [if_neg HK.out,HL.out,if_neg (by rw [HV1.out];decide),if_neg (by rw [HV2.out];decide),if_neg HAB.out,HPA.out,HLA.out,if_neg (by rw [HV3.out];decide),HPB.out,HLB.out,if_pos HV4.out]
  go_quiet ((go_at_call 114;first | with_reducible exact Calls.quiet_of_same (dL _ j.point na true HV3.out) | with_reducible exact Calls.quiet_of_same (dL _ j.on nb false HV4.out) | fail));go_wp2;go_ret;exact ⟨by rw [h9];rfl,af q2 _⟩
 have hX2:x=(if j.kind=0 then (if j.to_=0 then 0 else 2) else if inI j.to_ nb=false then 9 else if eM bb.pts j.on j.to_=true then 8 else 0):=by
  rw [← HX.out];unfold bh;rw [if_neg HK.out,HL.out,if_neg (by rw [HV1.out];decide),if_neg (by rw [HV2.out];decide),if_neg HAB.out,HPA.out,HLA.out,if_neg (by rw [HV3.out];decide),HPB.out,HLB.out,if_neg (by rw [HV4.out];decide)]
 have HX2:=Qh hX2;clear hX2;by_cases hto:j.to_=0
 ·have hx:x=0:=by rw [HX2.out,if_pos HK0.out,if_pos hto]
  have t0:(j.to_ == 0)=true:=beq_iff_eq.2 hto;have t1:(j.to_ != 0)=false:=by rw [hto];rfl
  clear hto;go_quiet ((go_at_call 114;first | with_reducible exact Calls.quiet_of_same (dL _ j.point na true HV3.out) | with_reducible exact Calls.quiet_of_same (dL _ j.on nb true HV4.out) | fail));go_wp2;go_ret;exact ⟨by rw [hx];rfl,af q2 _⟩
 have hx:x=2:=by rw [HX2.out,if_pos HK0.out,if_neg hto]
 have t0:(j.to_ == 0)=false:=beq_eq_false_iff_ne.2 hto;have t1:(j.to_ != 0)=true:=bne_iff_ne.2 hto;clear hto;go_quiet ((go_at_call 114;first | with_reducible exact Calls.quiet_of_same (dL _ j.point na true HV3.out) | with_reducible exact Calls.quiet_of_same (dL _ j.on nb true HV4.out) | fail));go_wp2;go_ret;exact ⟨by rw [hx];rfl,af q2 _⟩
theorem tL (w:World) (A:Option Addr) (n c:Nat) (B:Option Addr) (p d:Nat) (C:Option Addr) (q e:Nat) (nm:List UInt8) (j:aN) (L:ao) (k:Nat) (h:SlS (fD k) 2 w A n c L.bodies) (hk:k≤10000000) (hk1:0 < k) (hn:n≤1000) (hk0:j.kind=1) (x:Int) (hx:bh L j=x) :
 Calls Tryz.prog 113 #[.agg #[ae nm,.slice A n c,.slice B p d,.slice C q e],.agg #[ae j.name,.int .i64 j.kind,.int .i64 j.a,.int .i64 j.point,.int .i64 j.b,.int .i64 j.on,.int .i64 j.to_]] w (av w (cD x)):=by
 have e0:(j.kind == 0)=false:=beq_eq_false_iff_ne.2 (by rw [hk0];decide);have e2:(j.kind != 0)=true:=by rw [hk0];rfl
 have e1:(j.kind == 1)=true:=beq_iff_eq.2 hk0;have e3:(j.kind != 1)=false:=by rw [hk0];rfl
 have hln:=h.1;have HX:=Qh hx;have HK:=Qh (show ¬ (j.kind≠0∧j.kind≠1) by rw [hk0];decide);have HK0:=Qh hk0;have H:=Qh h;have HL:=Qh hln;obtain ⟨v1,hv1⟩:∃ v,inI j.a n=v:=⟨_,rfl⟩;obtain ⟨v2,hv2⟩:∃ v,inI j.b n=v:=⟨_,rfl⟩;have HV1:=Qh hv1;have HV2:=Qh hv2;clear hx hk0 h hln hv1 hv2;go_in;go_wp2_with fail;(with_reducible refine (tI _ j.a n v1 HV1.out).mono ?_);rintro e' w1 ⟨rfl,hb1⟩;have q1:=hb1.q2;have x1:Blk w1 w.heap.size 36 #[ae nm,.slice A n c,.slice B p d,.slice C q e]:=((ah _ _ _ (by simp)).alloc _).below hb1 (by simp <;> omega);have y1:Blk w1 (w.heap.size+1) 79 #[ae j.name,.int .i64 j.kind,.int .i64 j.a,.int .i64 j.point,.int .i64 j.b,.int .i64 j.on,.int .i64 j.to_]:=(ah _ _ _ (by simp)).below hb1 (by simp);clear hb1;cases v1
 ·have h9:x=9:=by rw [← HX.out];unfold bh;rw [if_neg HK.out,HL.out,if_pos HV1.out]
  go_wp2;go_ret;exact ⟨by rw [h9];rfl,q1⟩
 have cx1:=x1.cell 1;have cy2:=y1.cell 2;have cy4:=y1.cell 4;go_wp2_with fail;(with_reducible refine (tI _ j.b n v2 HV2.out).mono ?_);rintro e' w2 ⟨rfl,hb2⟩;have q2:=q1.trans (hb2.mono q1.size);have x2:=x1.below hb2 x1.lt;have y2:=y1.below hb2 y1.lt;clear cx1 cy2 cy4 hb2 x1 y1;cases v2
 ·have h9:x=9:=by rw [← HX.out];unfold bh;rw [if_neg HK.out,HL.out,if_neg (by rw [HV1.out];decide),if_pos HV2.out]
  go_wp2;go_ret;exact ⟨by rw [h9];rfl,q2⟩
 obtain ⟨an,han,hal⟩:=lM HV1.out;obtain ⟨bn,hbn,hbl⟩:=lM HV2.out;have HA:=Qh han;have HBN:=Qh hbn;have cx1:=x2.cell 1;have cy1:=y2.cell 1;have cy2:=y2.cell 2;have cy3:=y2.cell 3;have cy4:=y2.cell 4;have cy5:=y2.cell 5;have cy6:=y2.cell 6;rw [han] at cy2;rw [hbn] at cy4;clear han hbn;by_cases hab:an=bn
 ·have h13:x=13:=by
   rw [← HX.out];unfold bh;rw [if_neg HK.out,HL.out,if_neg (by rw [HV1.out];decide),if_neg (by rw [HV2.out];decide),if_pos (by rw [HA.out,HBN.out,hab])]
  subst hab;go_wp2;go_ret;exact ⟨by rw [h13];rfl,q2⟩
 have eab:((an:Int) == (bn:Int))=false:=beq_eq_false_iff_ne.2 (by omega);obtain ⟨g,o,bb,e1',hg,hnc,hbb,hBb⟩:=(H.out.bd q2).at_ hbl;subst e1';obtain ⟨ab,hab',hAb⟩:=(H.out.bd q2).rowAt hal;obtain ⟨Ab,nb,cb,k0,k1,hMb,_⟩:=hBb;obtain ⟨Aa,na,ca,l0,l1,hMa,_⟩:=hAb;have hpa:cH L j.a=ab.pts:=by unfold cH;rw [HA.out];show (match L.bodies[an]? with | some b=>b.pts | none=>[])=_;rw [hab']
 have hpb:cH L j.b=bb.pts:=by unfold cH;rw [HBN.out];show (match L.bodies[bn]? with | some b=>b.pts | none=>[])=_;rw [hbb]
 have hla:=hMa.1;have hlb:=hMb.1;have hbn2:((bn:Nat):Int) < ((n:Nat):Int):=by omega
 have han2:((an:Nat):Int) < ((n:Nat):Int):=by omega
 obtain ⟨v3,hv3⟩:∃ v,inI j.point na=v:=⟨_,rfl⟩;obtain ⟨v4,hv4⟩:∃ v,inI j.on nb=v:=⟨_,rfl⟩;have HV3:=Qh hv3;have HV4:=Qh hv4;have HMB:=Qh hMb;have HPA:=Qh hpa;have HPB:=Qh hpb;have HLA:=Qh hla;have HLB:=Qh hlb;have HAB:=Qh (show ¬ j.a=j.b by rw [HA.out,HBN.out];omega);clear hv3 hv4 hMb hMa hpa hpb hla hlb hbb hab' hab;go_wp2_with fail;cases v3
 ·have h9:x=9:=by
   rw [← HX.out];unfold bh;rw [if_neg HK.out,HL.out,if_neg (by rw [HV1.out];decide),if_neg (by rw [HV2.out];decide),if_neg HAB.out,HPA.out,HLA.out,if_pos HV3.out]
  go_quiet ((go_at_call 114;exact Calls.quiet_of_same (dL _ j.point na false HV3.out)));go_wp2;go_ret;exact ⟨by rw [h9];rfl,af q2 _⟩
 cases v4
 ·have h9:x=9:=by
   rw [← HX.out];unfold bh;rw [if_neg HK.out,HL.out,if_neg (by rw [HV1.out];decide),if_neg (by rw [HV2.out];decide),if_neg HAB.out,HPA.out,HLA.out,if_neg (by rw [HV3.out];decide),HPB.out,HLB.out,if_pos HV4.out]
  go_quiet ((go_at_call 114;first | with_reducible exact Calls.quiet_of_same (dL _ j.point na true HV3.out) | with_reducible exact Calls.quiet_of_same (dL _ j.on nb false HV4.out) | fail));go_wp2;go_ret;exact ⟨by rw [h9];rfl,af q2 _⟩
 have hX2:x=(if j.kind=0 then (if j.to_=0 then 0 else 2) else if inI j.to_ nb=false then 9 else if eM bb.pts j.on j.to_=true then 8 else 0):=by
  rw [← HX.out];unfold bh;rw [if_neg HK.out,HL.out,if_neg (by rw [HV1.out];decide),if_neg (by rw [HV2.out];decide),if_neg HAB.out,HPA.out,HLA.out,if_neg (by rw [HV3.out];decide),HPB.out,HLB.out,if_neg (by rw [HV4.out];decide)]
 have HX2:=Qh hX2;clear hX2;obtain ⟨v5,hv5⟩:∃ v,inI j.to_ nb=v:=⟨_,rfl⟩;have HV5:=Qh hv5;clear hv5;go_quiet ((go_at_call 114;first | with_reducible exact Calls.quiet_of_same (dL _ j.point na true HV3.out) | with_reducible exact Calls.quiet_of_same (dL _ j.on nb true HV4.out) | fail));go_wp2_with fail;(with_reducible refine (tI _ j.to_ nb v5 HV5.out).mono ?_);rintro e' w3 ⟨rfl,hb3⟩;have q23:Below w2.heap.size w2 w3:=ak (af (aa _) _) hb3;have q3:=q2.trans (q23.mono q2.size);have x3:=x2.below q23 x2.lt;have y3:=y2.below q23 y2.lt;clear cx1 cy1 cy2 cy3 cy4 cy5 cy6 k0 k1 l0 l1 hb3 x2 y2;cases v5
 ·have hx:x=9:=by rw [HX2.out,if_neg (by rw [HK0.out];decide),if_pos HV5.out]
  go_wp2;go_ret;exact ⟨by rw [hx];rfl,q3⟩
 obtain ⟨on,hon,honl⟩:=lM HV4.out;obtain ⟨tn,htn,htnl⟩:=lM HV5.out;have cy5:=y3.cell 5;have cy6:=y3.cell 6;rw [hon] at cy5;rw [htn] at cy6;obtain ⟨g',o',m,e2',hg',hnc',hm,hM⟩:=(HMB.out.mk_ q23).at_ honl;subst e2';obtain ⟨m',hm',hM'⟩:=(HMB.out.mk_ q23).rowAt htnl;obtain ⟨d0,⟨b1,A1,n1,c1,D1,m1,e1,d1,d2,d3,hQ1⟩,⟨b2,A2,n2,c2,D2,m2,f2,d4,d5,d6,hQ2⟩,_⟩:=hM;obtain ⟨z0,⟨b3,A3,n3,c3,D3,m3,f3,z1,z2,z3,hQ3⟩,⟨b4,A4,n4,c4,D4,m4,f4,z4,z5,z6,hQ4⟩,_⟩:=hM';have d2:w3.cell? ⟨g',o'+on * 7+2,none⟩=some (.slice A1 n1 c1):=d2;have d3:w3.cell? ⟨g',o'+on * 7+3,none⟩=some (.slice D1 m1 e1):=d3;have d5:w3.cell? ⟨g',o'+on * 7+5,none⟩=some (.slice A2 n2 c2):=d5;have d6:w3.cell? ⟨g',o'+on * 7+6,none⟩=some (.slice D2 m2 f2):=d6;have z2:w3.cell? ⟨g',o'+tn * 7+2,none⟩=some (.slice A3 n3 c3):=z2;have z3:w3.cell? ⟨g',o'+tn * 7+3,none⟩=some (.slice D3 m3 f3):=z3;have z5:w3.cell? ⟨g',o'+tn * 7+5,none⟩=some (.slice A4 n4 c4):=z5;have z6:w3.cell? ⟨g',o'+tn * 7+6,none⟩=some (.slice D4 m4 f4):=z6
 have hpe:eM bb.pts j.on j.to_=(decide (m.x.q=m'.x.q) && decide (m.y.q=m'.y.q)):=by
  unfold eM;rw [hon,htn];show (match bb.pts[on]?,bb.pts[tn]? with | some p,some q=>decide (p.x.q=q.x.q) && decide (p.y.q=q.y.q) | _,_=>false)=_;rw [hm,hm']
 have HPE:=Qh hpe;have HQ1:=Qh hQ1;have HQ2:=Qh hQ2;have HQ3:=Qh hQ3;have HQ4:=Qh hQ4;have hon2:((on:Nat):Int) < ((nb:Nat):Int):=by omega
 have htn2:((tn:Nat):Int) < ((nb:Nat):Int):=by omega
 obtain ⟨s1,hs1⟩:∃ s,kE m.x.q m'.x.q=s:=⟨_,rfl⟩;obtain ⟨s2,hs2⟩:∃ s,kE m.y.q m'.y.q=s:=⟨_,rfl⟩;have HS1:=Qh hs1;have HS2:=Qh hs2;have hl1:w.heap.size < w3.heap.size:=x3.lt;have hl2:w.heap.size+1 < w3.heap.size:=y3.lt;clear hpe hQ1 hQ2 hQ3 hQ4 hs1 hs2 hm hm' hon htn;go_wp2_with fail
 have hz:∀ z:Bool,(decide (m.x.q=m'.x.q) && decide (m.y.q=m'.y.q))=z→x=if z=true then 8 else 0:=fun z hz=>by
  rw [HX2.out,if_neg (by rw [HK0.out];decide),if_neg (by rw [HV5.out];decide),HPE.out,hz]
 have HZ:=Qh hz;clear hz;go_region
 ·go_wp2_with fail
  (with_reducible refine (kO _ b1 A1 n1 c1 D1 m1 e1 m.x.q k ?_ b3 A3 n3 c3 D3 m3 f3 m'.x.q k ?_ s1 HS1.out hk1 (by omega) hk1 (by omega)).mono ?_);(exact ((HQ1.out.qz).belw (af ((((aa _).alloc Qr _).alloc (by simp) _)) 1)));(exact ((HQ3.out.qz).belw (af ((((aa _).alloc Qr _).alloc (by simp) _)) 1)));rintro e' w4 ⟨rfl,hb4⟩;have xa:=(((ah _ _ _ (g:=w3.heap.size) (by simp)).alloc _).drew).below hb4 (by simp <;> omega);have xb:=((ah _ _ _ (g:=w3.heap.size+1) (by simp)).drew).below hb4 (by simp <;> omega);have q4:Below w3.heap.size w3 w4:=(af ((((aa w3).alloc Qr _).alloc (by simp) _)) 1).trans (hb4.mono (by simp <;> omega));have q24:=q3.trans (q4.mono q3.size);have hla:w3.heap.size < w4.heap.size:=xa.lt;have hlb:w3.heap.size+1 < w4.heap.size:=xb.lt;by_cases hs1:s1=0
  ·have es:(s1 == 0)=true:=beq_iff_eq.2 hs1
   have hqx:m.x.q=m'.x.q:=bZ.1 (HS1.out.trans hs1);have HQX:=Qh hqx;clear hs1 hqx;have ca4:=xa.cell 4;have ca5:=xa.cell 5;have ca6:=xa.cell 6;have cb4:=xb.cell 4;have cb5:=xb.cell 5;have cb6:=xb.cell 6;go_wp2_with fail;(with_reducible refine (kO _ b2 A2 n2 c2 D2 m2 f2 m.y.q k ?_ b4 A4 n4 c4 D4 m4 f4 m'.y.q k ?_ s2 HS2.out hk1 (by omega) hk1 (by omega)).mono ?_);(exact (HQ2.out.qz).belw q4);(exact (HQ4.out.qz).belw q4);rintro e' w5 ⟨rfl,hb5⟩;have q5:=q24.trans (hb5.mono q24.size);clear ca4 ca5 ca6 cb4 cb5 cb6;by_cases hs2:s2=0
   ·have es2:(s2 == 0)=true:=beq_iff_eq.2 hs2
    have hqy:m.y.q=m'.y.q:=bZ.1 (HS2.out.trans hs2);have h8:x=8:=HZ.out true (by rw [decide_eq_true HQX.out,decide_eq_true hqy];rfl);clear hs2 hqy;go_wp2;go_ret;exact ⟨by rw [h8];rfl,q5⟩
   have es2:(s2 == 0)=false:=beq_eq_false_iff_ne.2 hs2;have h0:x=0:=HZ.out false (by rw [decide_eq_false (fun e=>hs2 (HS2.out.symm.trans (bZ.2 e)))];simp);clear hs2;go_wp2;go_ret;exact ⟨by rw [h0];rfl,q5⟩
  have es:(s1 == 0)=false:=beq_eq_false_iff_ne.2 hs1;have h0:x=0:=HZ.out false (by rw [decide_eq_false (fun e=>hs1 (HS1.out.symm.trans (bZ.2 e)))];rfl);clear hs1;go_wp2;go_ret;exact ⟨by rw [h0];rfl,q24⟩
 go_wp2_with fail;(with_reducible refine (kO _ b1 A1 n1 c1 D1 m1 e1 m.x.q k ?_ b3 A3 n3 c3 D3 m3 f3 m'.x.q k ?_ s1 HS1.out hk1 (by omega) hk1 (by omega)).mono ?_);(exact ((HQ1.out.qz).belw (af ((((aa _).alloc Qr _).alloc (by simp) _)) 1)));(exact ((HQ3.out.qz).belw (af ((((aa _).alloc Qr _).alloc (by simp) _)) 1)));rintro e' w4 ⟨rfl,hb4⟩;have xa:=(((ah _ _ _ (g:=w3.heap.size) (by simp)).alloc _).drew).below hb4 (by simp <;> omega);have xb:=((ah _ _ _ (g:=w3.heap.size+1) (by simp)).drew).below hb4 (by simp <;> omega);have q4:Below w3.heap.size w3 w4:=(af ((((aa w3).alloc Qr _).alloc (by simp) _)) 1).trans (hb4.mono (by simp <;> omega));have q24:=q3.trans (q4.mono q3.size);have hla:w3.heap.size < w4.heap.size:=xa.lt;have hlb:w3.heap.size+1 < w4.heap.size:=xb.lt;by_cases hs1:s1=0
 ·have es:(s1 == 0)=true:=beq_iff_eq.2 hs1
  have hqx:m.x.q=m'.x.q:=bZ.1 (HS1.out.trans hs1);have HQX:=Qh hqx;clear hs1 hqx;have ca4:=xa.cell 4;have ca5:=xa.cell 5;have ca6:=xa.cell 6;have cb4:=xb.cell 4;have cb5:=xb.cell 5;have cb6:=xb.cell 6;go_wp2_with fail;(with_reducible refine (kO _ b2 A2 n2 c2 D2 m2 f2 m.y.q k ?_ b4 A4 n4 c4 D4 m4 f4 m'.y.q k ?_ s2 HS2.out hk1 (by omega) hk1 (by omega)).mono ?_);(exact (HQ2.out.qz).belw q4);(exact (HQ4.out.qz).belw q4);rintro e' w5 ⟨rfl,hb5⟩;have q5:=q24.trans (hb5.mono q24.size);clear ca4 ca5 ca6 cb4 cb5 cb6;by_cases hs2:s2=0
  ·have es2:(s2 == 0)=true:=beq_iff_eq.2 hs2
   have hqy:m.y.q=m'.y.q:=bZ.1 (HS2.out.trans hs2);have h8:x=8:=HZ.out true (by rw [decide_eq_true HQX.out,decide_eq_true hqy];rfl);clear hs2 hqy;go_wp2;go_ret;exact ⟨by rw [h8];rfl,q5⟩
  have es2:(s2 == 0)=false:=beq_eq_false_iff_ne.2 hs2;have h0:x=0:=HZ.out false (by rw [decide_eq_false (fun e=>hs2 (HS2.out.symm.trans (bZ.2 e)))];simp);clear hs2;go_wp2;go_ret;exact ⟨by rw [h0];rfl,q5⟩
 have es:(s1 == 0)=false:=beq_eq_false_iff_ne.2 hs1;have h0:x=0:=HZ.out false (by rw [decide_eq_false (fun e=>hs1 (HS1.out.symm.trans (bZ.2 e)))];rfl);clear hs1;go_wp2;go_ret;exact ⟨by rw [h0];rfl,q24⟩
theorem fe {α:Type}{f:List α→α→Int}:∀ (l prev:List α),bq f prev l=0→∀ a∈l,∃ p,f p a=0
 | [],_,_=>by simp
 | a :: r,prev,h=>by
  unfold bq at h;split at h
  ·rename_i h0
   intro x hx;rcases List.mem_cons.1 hx with rfl | hx
   ·exact ⟨_,h0⟩
   exact fe r _ h x hx
  rename_i h0;exact absurd h h0
theorem fS {s:List UInt8}(h:aP s=true):s.length≤24:=by
 unfold aP at h;simp at h;omega
def vN (m:aq):Prop:=m.name.length≤24∧m.x.ok=true∧m.y.ok=true
theorem qV {p:List aq}{m:aq}(h:bk p m=0):vN m:=by
 unfold bk at h
 repeat' split at h
 all_goals first | omega | skip
 rename_i h1 h2 h3 h4;exact ⟨fS (by simpa using h1),by simpa using h3,by simpa using h4⟩
def kg (b:al):Prop:=b.name.length≤24∧b.pts.length≤8∧∀ m∈b.pts,vN m
theorem qW {p:List al}{b:al}(h:aU p b=0):kg b:=by
 unfold aU at h;split at h
 ·omega
 rename_i h1;split at h
 ·omega
 split at h
 ·omega
 rename_i h3;refine ⟨fS (by simpa using h1),by omega,fun m hm=>?_⟩;obtain ⟨q,hq⟩:=fe _ _ h m hm;exact qV hq
def kP (bs:List al) (j:aN):Prop:=j.name.length≤24∧∃ (a b p o:Nat) (x y:al) (m1 m2:aq),j.a=(a:Nat)∧j.b=(b:Nat)∧j.point=(p:Nat)∧j.on=(o:Nat)∧bs[a]?=some x∧bs[b]?=some y∧x.pts[p]?=some m1∧y.pts[o]?=some m2 ∧
  ((j.kind=0∧j.to_=0)∨(j.kind=1∧∃ (t:Nat) (m3:aq),j.to_=(t:Nat)∧y.pts[t]?=some m3))
theorem kh {α:Type}{l:List α}{i:Int}(h:inI i l.length=true):∃ (n:Nat) (a:α),i=(n:Nat)∧l[n]?=some a:=by
 obtain ⟨n,h1,h2⟩:=lM h;exact ⟨n,l[n],h1,List.getElem?_eq_getElem h2⟩
theorem kQ {L:ao}{i:Int}{n:Nat}{b:al}(h:i=(n:Nat)) (hb:L.bodies[n]?=some b):cH L i=b.pts:=by
 subst h;unfold cH;show (match L.bodies[n]? with | some b=>b.pts | none=>[])=_;rw [hb]
theorem pV {L:ao}{p:List aN}{j:aN}(h:aQ L p j=0):kP L.bodies j:=by
 unfold aQ at h;split at h
 ·omega
 rename_i h1;split at h
 ·omega
 refine ⟨fS (by simpa using h1),?_⟩;unfold bh at h;split at h
 ·omega
 rename_i hk;split at h
 ·omega
 rename_i ha;split at h
 ·omega
 rename_i hb;split at h
 ·omega
 split at h
 ·omega
 rename_i hp;split at h
 ·omega
 rename_i ho;obtain ⟨a,x,ea,hx⟩:=kh (by simpa using ha);obtain ⟨b,y,eb,hy⟩:=kh (by simpa using hb);rw [kQ ea hx] at hp;rw [kQ eb hy] at ho;obtain ⟨pn,m1,ep,hm1⟩:=kh (by simpa using hp);obtain ⟨on,m2,eo,hm2⟩:=kh (by simpa using ho);refine ⟨a,b,pn,on,x,y,m1,m2,ea,eb,ep,eo,hx,hy,hm1,hm2,?_⟩;split at h
 ·rename_i h0
  split at h
  ·rename_i ht;exact Or.inl ⟨h0,ht⟩
  omega
 rename_i h0;split at h
 ·omega
 rename_i ht;rw [kQ eb hy] at ht;obtain ⟨t,m3,et,hm3⟩:=kh (by simpa using ht);exact Or.inr ⟨by omega,t,m3,et,hm3⟩
def jO (bs:List al) (d:bc):Prop:=d.name.length≤24∧∃ (i:Nat) (b:al),d.body=(i:Nat)∧bs[i]?=some b
theorem ox {bs:List al}{p:List bc}{d:bc}(h:ax bs.length p d=0):jO bs d:=by
 unfold ax at h;split at h
 ·omega
 rename_i h1;split at h
 ·omega
 split at h
 ·omega
 rename_i hb;obtain ⟨i,b,e,hi⟩:=kh (by simpa using hb);exact ⟨fS (by simpa using h1),i,b,e,hi⟩
structure AP (L:ao):Prop where
  name:L.name.length≤24
  nb:L.bodies.length≤8
  nj:L.joints.length≤16
  nd:L.drivers.length≤2
  b0:0 < L.bodies.length
  body:∀ b∈L.bodies,kg b
  joint:∀ j∈L.joints,kP L.bodies j
  driver:∀ d∈L.drivers,jO L.bodies d
theorem vO {L:ao}(h:dh L=0):AP L:=by
 unfold dh at h;split at h
 ·omega
 rename_i h1;split at h
 ·omega
 rename_i h2;split at h
 ·omega
 rename_i h3;split at h
 ·rename_i h4;exact absurd h h4
 rename_i h4;split at h
 ·omega
 rename_i h5;split at h
 ·rename_i h6;exact absurd h h6
 rename_i h6;split at h
 ·omega
 rename_i h7;refine ⟨fS (by simpa using h1),by omega,by omega,by omega,by omega,fun b hb=>?_,fun j hj=>?_,fun d hd=>?_⟩
 ·obtain ⟨q,hq⟩:=fe _ _ (by simpa using h4) b hb
  exact qW hq
 ·obtain ⟨q,hq⟩:=fe _ _ (by simpa using h6) j hj
  exact pV hq
 obtain ⟨q,hq⟩:=fe _ _ h d hd;exact ox hq
def kB (bs:List al) (i j:Int):List UInt8:=match bs[i.toNat]? with
  | some b=>(match b.pts[j.toNat]? with | some m=>b.name ++ 46 :: m.name | none=>[])
  | none=>[]
theorem xQ {bs:List al}{i j:Nat}{b:al}{m:aq}(hb:bs[i]?=some b) (hm:b.pts[j]?=some m):kB bs (i:Nat) (j:Nat)=b.name ++ 46 :: m.name:=by
 unfold kB;show (match bs[i]? with | some b=>(match b.pts[j]? with | some m=>b.name ++ 46 :: m.name | none=>[]) | none=>[])=_;rw [hb];show (match b.pts[j]? with | some m=>b.name ++ 46 :: m.name | none=>[])=_;rw [hm]
def rY (bs:List al) (i:Int):List UInt8:=match bs[i.toNat]? with | some b=>b.name | none=>[]
theorem rZ {bs:List al}{i:Nat}{b:al}(hb:bs[i]?=some b):rY bs (i:Nat)=b.name:=by
 unfold rY;show (match bs[i]? with | some b=>b.name | none=>[])=_;rw [hb]
def lN (bs:List al) (j:aN):List (List UInt8) :=
  if j.kind=1 then [[115,108,105,100,101],j.name,kB bs j.a j.point,kB bs j.b j.on,kB bs j.b j.to_]
  else [[112,105,110],j.name,kB bs j.a j.point,kB bs j.b j.on]
def nA (bs:List al) (j:aN):List UInt8:=rU (lN bs j) ++ [59,10]
def lO (bs:List al) (d:bc):List UInt8:=[100,114,105,118,101,114,32] ++ d.name ++ [32] ++ rY bs d.body ++ [59,10]
theorem oy {α:Type}{f:List α→α→Int}:∀ (l prev:List α),bq f prev l=0→∀ (i:Nat) (a:α),l[i]?=some a→f (prev ++ l.take i) a=0
 | [],_,_,i,a,ha=>by simp at ha
 | x :: r,prev,h,i,a,ha=>by
  unfold bq at h;split at h
  ·rename_i h0
   cases i with
   | zero=>simp at ha;subst ha;simpa using h0
   | succ i =>
    have h2:=oy r _ h i a (by simpa using ha);simpa using h2
  rename_i h0;exact absurd h h0
theorem sd {α:Type}{nm:α→List UInt8}{l:List α}(h:∀ (i:Nat) (a:α),l[i]?=some a→twN ((l.take i).map nm) (nm a)=false) {i j:Nat}{a b:α}(ha:l[i]?=some a) (hb:l[j]?=some b) (e:nm a=nm b):i=j:=by
 rcases Nat.lt_trichotomy i j with h1 | h1 | h1
 ·have:=dU ha h1 e
  rw [h j b hb] at this;cases this
 ·exact h1
 have:=dU hb h1 e.symm;rw [h i a ha] at this;cases this
theorem vP {s:List UInt8}(h:aP s=true):s≠[]∧∀ c∈s,aM c=true:=by
 unfold aP at h;simp only [Bool.and_eq_true,decide_eq_true_eq] at h;obtain ⟨⟨h1,h2⟩,_⟩:=h
 cases s with
 | nil=>simp [bl] at h1
 | cons x t =>
  refine ⟨by simp,?_⟩;rw [bl] at h1 h2;split at h1
  ·rename_i hx
   rw [if_pos hx,List.length_cons] at h2
   have h3:t.takeWhile aM=t:=by
    have h4:t.takeWhile aM <+: t:=List.takeWhile_prefix _;exact h4.eq_of_length (by omega)
   intro c hc;rcases List.mem_cons.1 hc with rfl | hc
   ·unfold aM;rw [hx];rfl
   rw [← h3] at hc;exact (List.all_eq_true.1 (List.all_takeWhile)) c hc
  omega
def RdW (r:RD):Prop:=Wds r.num∧Wds r.den
def MkW (m:aq):Prop:=RdW m.x∧RdW m.y
def LkW (L:ao):Prop:=∀ b∈L.bodies,∀ m∈b.pts,MkW m
structure MkF (m:aq):Prop where
  name:aP m.name=true
  x:m.x.ok=true
  y:m.y.ok=true
theorem oz {p:List aq}{m:aq}(h:bk p m=0):MkF m∧twN (p.map aq.name) m.name=false:=by
 unfold bk at h
 repeat' split at h
 all_goals first | omega | skip
 rename_i h1 h2 h3 h4;exact ⟨⟨by simpa using h1,by simpa using h3,by simpa using h4⟩,by simpa using h2⟩
structure BdF (b:al):Prop where
  name:aP b.name=true
  pts:∀ m∈b.pts,MkF m
  dist:∀ {i j:Nat}{m m':aq},b.pts[i]?=some m→b.pts[j]?=some m'→m.name=m'.name→i=j
theorem oB {p:List al}{b:al}(h:aU p b=0):BdF b∧twN (p.map al.name) b.name=false:=by
 unfold aU at h;split at h
 ·omega
 rename_i h1;split at h
 ·omega
 rename_i h2;split at h
 ·omega
 have hm:∀ (i:Nat) (a:aq),b.pts[i]?=some a→MkF a∧twN ((b.pts.take i).map aq.name) a.name=false:=fun i a ha=>oz (by simpa using oy _ _ h i a ha)
 refine ⟨⟨by simpa using h1,fun m hm'=>?_,fun {i j m m'}=>sd fun i a ha=>(hm i a ha).2⟩,by simpa using h2⟩;obtain ⟨i,hi,e⟩:=List.getElem_of_mem hm';exact (hm i m (by rw [List.getElem?_eq_getElem hi,e])).1
structure LkF (L:ao):Prop where
  ok:AP L
  name:aP L.name=true
  body:∀ b∈L.bodies,BdF b
  dist:∀ {i j:Nat}{a b:al},L.bodies[i]?=some a→L.bodies[j]?=some b→a.name=b.name→i=j
  joint:∀ j∈L.joints,aP j.name=true
  driver:∀ d∈L.drivers,aP d.name=true
theorem lP {L:ao}(h:dh L=0):LkF L:=by
 have hok:=vO h;unfold dh at h;split at h
 ·omega
 rename_i h1;split at h
 ·omega
 split at h
 ·omega
 split at h
 ·rename_i h4;exact absurd h h4
 rename_i h4;split at h
 ·omega
 split at h
 ·rename_i h6;exact absurd h h6
 rename_i h6;split at h
 ·omega
 have hb:∀ (i:Nat) (a:al),L.bodies[i]?=some a→BdF a∧twN ((L.bodies.take i).map al.name) a.name=false:=fun i a ha=>oB (by have:=oy _ _ (Decidable.not_not.1 h4) i a ha;rwa [List.nil_append] at this)
 refine ⟨hok,by simpa using h1,fun b hb'=>?_,fun {i j a b}=>sd fun i a ha=>(hb i a ha).2,fun j hj=>?_,fun d hd=>?_⟩
 ·obtain ⟨i,hi,e⟩:=List.getElem_of_mem hb'
  exact (hb i b (by rw [List.getElem?_eq_getElem hi,e])).1
 ·obtain ⟨q,hq⟩:=fe _ _ (by simpa using h6) j hj
  unfold aQ at hq;split at hq
  ·omega
  rename_i h9;simpa using h9
 obtain ⟨q,hq⟩:=fe _ _ h d hd;unfold ax at hq;split at hq
 ·omega
 rename_i h9;simpa using h9
/-! Lines. -/
def Mx (w:World):Prop:=∃ m,w.cell? ⟨0,0,none⟩=some (.int .i64 m)
theorem Mx.belw {w w':World}(h:Mx w) (hb:Below w.heap.size w w'):Mx w':=by
 obtain ⟨m,hm⟩:=h;exact ⟨m,(hb.cell (p:=⟨0,0,none⟩) (World.block_lt_of_cell? w _ hm)).trans hm⟩
theorem yI (w:World) (s:List UInt8) (c:UInt8) (a b:List UInt8) (f:Bool) (hm:Mx w) (hl:s.length≤65536) (hc:Lib.cut s [c]=(a,b,f)):Calls Tryz.prog 49 #[ae s,.string ⟨#[c]⟩] w (av w (.tuple #[ae a,ae b,.bool f])):=by
 obtain ⟨m,hm⟩:=hm;refine (Tryz.strings_Cut ⟨s.toArray⟩ ⟨#[c]⟩ m w (by show s.length < _;omega) hm).mono fun e w' ⟨he,n,hw⟩=>⟨?_,hw ▸ af (aa _) n⟩
 rw [he];show Ending.returned (.tuple #[ae (Lib.cut s [c]).1,ae (Lib.cut s [c]).2.1,.bool (Lib.cut s [c]).2.2])=_;rw [hc]
theorem zI:cD 2=.iface 49 (.int .i64 2):=if_neg (by decide)
theorem zJ:cD 4=.iface 49 (.int .i64 4):=if_neg (by decide)
def isD (D:List UInt8):Prop:=D≠[]∧D.all aK=true
def sg (m:Bool) (D:List UInt8):List UInt8:=if m then 45 :: D else D
def sgI (m:Bool) (n:Int):Int:=if m then -n else n
inductive xR (s:List UInt8):Prop
  | whole (m:Bool) (D:List UInt8) (hD:isD D) (hs:s=sg m D)
  | quo (m:Bool) (D E:List UInt8) (hD:isD D) (hE:isD E) (hs:s=sg m (D ++ 47 :: E))
  | dot (m:Bool) (D E:List UInt8) (hD:isD D) (hE:isD E) (hs:s=sg m (D ++ 46 :: E))
theorem xS {p:UInt8→Bool}:∀ {l:List UInt8},(l.takeWhile p).length=l.length→l.all p=true:=by
 intro l h;have e:l.takeWhile p=l:=(List.takeWhile_sublist p).eq_of_length h;rw [← e];exact je l
theorem oC {r:List UInt8}{k:Nat}(h:cg r=k) (hk:0 < k):∃ D d,r=D ++ d∧D.length=k∧isD D:=by
 obtain ⟨d,hd,_⟩:=gP aK r;refine ⟨r.takeWhile aK,d,hd,h,?_,je r⟩;intro e;unfold cg at h;rw [e] at h;simp at h;omega
theorem num_full {s:List UInt8}(h:bC s=s.length) (h0:0 < s.length):xR s:=by
 obtain ⟨m,k,hm,hk,hc⟩:=iu (s:=s) (i:=0) (v:=s.length) h;simp only [Nat.zero_add] at hk hc
 obtain ⟨b,hb⟩:∃ b:Bool,s=sg b (s.drop m):=by
  rcases hm with ⟨rfl,ha⟩ | ⟨rfl,_⟩
  ·refine ⟨true,?_⟩
   have:=bG h0;rw [ha] at this;exact this
  exact ⟨false,rfl⟩
 rcases hc with ⟨_,hv⟩ | ⟨hkp,d,hd,hc⟩
 ·omega
 obtain ⟨D,r,hr,hDl,hD⟩:=oC hk hkp;have hml:m+k≤s.length:=bP hk hkp
 have hrl:r.length=s.length - (m+k):=by
  have:=congrArg List.length hr;rw [List.length_drop,List.length_append] at this;omega
 rcases hc with ⟨_,_,hv⟩ | ⟨hdd,t,ht,hc⟩
 ·have:r=[]:=List.eq_nil_of_length_eq_zero (by omega)
  subst this;rw [List.append_nil] at hr;exact .whole b D hD (by rw [← hr];exact hb)
 have hin:m+k < s.length:=by rcases hdd with e | e <;> exact jh hd (by rw [e];decide)
 rcases hc with ⟨_,hv⟩ | ⟨htp,hv⟩
 ·omega
 have e1:s.drop (m+k)=r:=by rw [← List.drop_drop,hr,← hDl,List.drop_left]
 have e2:=bG hin;rw [e1,hd] at e2
 have hE:isD (s.drop (m+k+1)):=by
  refine ⟨fun e=>?_,xS (p:=aK) ?_⟩
  ·rw [e] at ht;simp [cg] at ht;omega
  show cg (s.drop (m+k+1))=_;rw [ht,List.length_drop];omega
 rw [e2] at hr;rw [hr] at hb;rcases hdd with rfl | rfl
 ·exact .dot b D _ hD hE hb
 exact .quo b D _ hD hE hb
theorem fT {D:List UInt8}(h:isD D):∃ c t,D=c :: t∧aK c=true:=by
 obtain ⟨h1,h2⟩:=h
 cases D with
 | nil=>exact absurd rfl h1
 | cons c t=>rw [List.all_cons,Bool.and_eq_true] at h2;exact ⟨c,t,rfl,h2.1⟩
theorem gf {D:List UInt8}(h:isD D) {c:UInt8}(hc:aK c=false):c ∉ D:=fun hm=>by
 have:=List.all_eq_true.1 h.2 c hm;rw [hc] at this;cases this
theorem fU {m:Bool}{D r:List UInt8}(h:isD D):cG (sg m (D ++ r))=m∧bR (sg m (D ++ r))=D ++ r:=by
 obtain ⟨c,t,rfl,hc⟩:=fT h;have h45:c≠45:=by rintro rfl;exact absurd hc (by decide)
 cases m
 ·show cG (c :: (t ++ r))=false∧bR (c :: (t ++ r))=_
  refine ⟨?_,?_⟩
  ·unfold cG;split
   ·rename_i h1;injection h1 with h2;exact absurd h2 h45
   rfl
  unfold bR;split
  ·rename_i h1;injection h1 with h2;exact absurd h2 h45
  rfl
 exact ⟨rfl,rfl⟩
def dl (D:List UInt8):List UInt8:=if D.dropWhile (· == 48)=[] then [48] else D.dropWhile (· == 48)
theorem pW (t:List UInt8):aj (48 :: t)=aj t:=by
 have:=fY [48] t;rw [show aj [48]=0 from rfl,Nat.zero_mul,Nat.zero_add] at this;exact this
theorem vQ:∀ {D:List UInt8},D.all aK=true→okZ (dl D)=true∧fc (dl D)=(aj D:Int)∧(dl D).length≤max 1 D.length:=by
 intro D
 induction D with
 | nil=>intro _;exact ⟨by decide,by decide,by decide⟩
 | cons c t ih =>
  intro h;rw [List.all_cons,Bool.and_eq_true] at h;by_cases hc:c=48
  ·subst hc
   have e:dl (48 :: t)=dl t:=by unfold dl;simp
   rw [e,pW];obtain ⟨h1,h2,h3⟩:=ih h.2;refine ⟨h1,h2,?_⟩;rw [List.length_cons];omega
  have e:dl (c :: t)=c :: t:=by unfold dl;simp [hc]
  have h45:c≠45:=by rintro rfl;exact absurd h.1 (by decide)
  have eh:cG (c :: t)=false:=by
   unfold cG;split
   ·rename_i h1;injection h1 with h2;exact absurd h2 h45
   rfl
  have et:bR (c :: t)=c :: t:=by
   unfold bR;split
   ·rename_i h1;injection h1 with h2;exact absurd h2 h45
   rfl
  rw [e];refine ⟨?_,?_,by omega⟩
  ·unfold okZ
   rw [eh,et];simp [h.1,hc];simpa using h.2
  unfold fc;rw [eh,et];rfl
inductive lQ (s:List UInt8) (x:Int) (q:Rat):Prop
  | large (h:60 < s.length) (hx:x=4) (hq:q=0)
  | bad (h:s.length≤60) (hb:s.length=0∨bC s≠s.length) (hx:x=2) (hq:q=0)
  | whole (m:Bool) (D:List UInt8) (h:s.length≤60) (hn:bC s=s.length) (hD:isD D) (hs:s=sg m D) (hx:x=0) (hq:q=((sgI m (aj D):Int):Rat))
  | quo0 (m:Bool) (D E:List UInt8) (h:s.length≤60) (hn:bC s=s.length) (hD:isD D) (hE:isD E) (hs:s=sg m (D ++ 47 :: E)) (h0:aj E=0) (hx:x=8) (hq:q=0)
  | quo (m:Bool) (D E:List UInt8) (h:s.length≤60) (hn:bC s=s.length) (hD:isD D) (hE:isD E) (hs:s=sg m (D ++ 47 :: E)) (h0:aj E≠0) (hx:x=0) (hq:q=Rat.divInt (sgI m (aj D)) (aj E))
  | dot (m:Bool) (D E:List UInt8) (h:s.length≤60) (hn:bC s=s.length) (hD:isD D) (hE:isD E) (hs:s=sg m (D ++ 46 :: E)) (hx:x=0) (hq:q=Rat.divInt (sgI m (aj (D ++ E))) ((10 ^ E.length:Nat):Int))
theorem qX (s:List UInt8):∃ x q,lQ s x q:=by
 by_cases h:60 < s.length
 ·exact ⟨4,0,.large h rfl rfl⟩
 by_cases hb:s.length=0∨bC s≠s.length
 ·exact ⟨2,0,.bad (by omega) hb rfl rfl⟩
 ·have hb1:bC s=s.length:=by
   by_cases e:bC s=s.length
   ·exact e
   exact absurd (.inr e) hb
  have hb2:0 < s.length:=by
   rcases Nat.eq_zero_or_pos s.length with e | e
   ·exact absurd (.inl e) hb
   exact e
  rcases num_full hb1 hb2 with ⟨m,D,hD,hs⟩ | ⟨m,D,E,hD,hE,hs⟩ | ⟨m,D,E,hD,hE,hs⟩
  ·exact ⟨0,_,.whole m D (by omega) hb1 hD hs rfl rfl⟩
  ·by_cases h0:aj E=0
   ·exact ⟨8,_,.quo0 m D E (by omega) hb1 hD hE hs h0 rfl rfl⟩
   exact ⟨0,_,.quo m D E (by omega) hb1 hD hE hs h0 rfl rfl⟩
  exact ⟨0,_,.dot m D E (by omega) hb1 hD hE hs rfl rfl⟩
theorem pX (n:Nat):dl (49 :: List.replicate n 48)=49 :: List.replicate n 48∧aj (49 :: List.replicate n 48)=10 ^ n∧(49 :: List.replicate n 48).all aK=true:=by
 refine ⟨by unfold dl;simp,?_,?_⟩
 ·induction n with
  | zero=>rfl
  | succ n ih =>
   rw [List.replicate_succ',← List.cons_append,fo,ih,show iT 48=0 from rfl,Nat.pow_succ];omega
 rw [List.all_cons,Bool.and_eq_true];refine ⟨by decide,?_⟩;rw [List.all_eq_true];intro c hc;rw [List.eq_of_mem_replicate hc];decide
theorem jP {D:List UInt8}(h:D.all aK=true) (hl:D.length≤60):aj D < 4294967296 ^ 60:=by
 have h1:=eS h;have h2:(10:Nat) ^ D.length≤10 ^ 60:=Nat.pow_le_pow_right (by decide) hl;have h3:(10:Nat) ^ 60 < 4294967296 ^ 60:=by decide
 omega
theorem xT (m:Bool) (n:Nat):(sgI m (n:Int)).natAbs=n:=by cases m <;> simp [sgI]
noncomputable def valX (s:List UInt8):Int:=(qX s).choose
noncomputable def valQ (s:List UInt8):Rat:=(qX s).choose_spec.choose
theorem val_out (s:List UInt8):lQ s (valX s) (valQ s):=(qX s).choose_spec.choose_spec
structure PS where
  toks:List Tkn
  L:ao
  x:Int
def PS.fail (s:PS) (e:Int):PS:=if s.x=0 then { s with x:=e } else s
def PS.next (s:PS) (k:Nat):Option (List UInt8) × PS :=
  if s.x≠0 then (none,s) else match s.toks with
    | []=>(none,{ s with x:=18 })
    | t :: _=>if t.kind=k then (some t.text,s) else (none,{ s with x:=2 })
def PS.drop1 (s:PS):PS:={ s with toks:=s.toks.drop 1 }
def PS.word (s:PS):List UInt8 × PS:=match s.next 0 with
  | (some t,s')=>(t,s'.drop1)
  | (none,s')=>([],s')
def PS.expect (s:PS) (k:Nat) (text:List UInt8):PS:=match s.next k with
  | (some t,s')=>if t=text then s'.drop1 else s'.fail 2
  | (none,s')=>s'
noncomputable def PS.number (s:PS):Rat × PS:=match s.next 1 with
  | (some t,s')=>if valX t≠0 then (0,s'.fail (valX t)) else (valQ t,s'.drop1)
  | (none,s')=>(0,s')
noncomputable def PS.mark (s:PS):aq × PS :=
  (⟨s.word.1,rd s.word.2.number.1,rd s.word.2.number.2.number.1⟩,s.word.2.number.2.number.2.expect 2 [59])
def PS.signHead (s:PS):Bool:=match s.toks with | t :: _=>t.kind == 2 | []=>false
noncomputable def PS.marks:Nat→PS→List aq→List aq × PS
  | 0,s,l=>(l,s)
  | f+1,s,l=>if s.x≠0 then (l,s) else if s.signHead then (l,s.expect 2 [125]) else PS.marks f s.mark.2 (l ++ [s.mark.1])
noncomputable def PS.body (s:PS):al × PS :=
  let r:=PS.marks (s.toks.length+1) (s.word.2.expect 2 [123]) []
  (⟨s.word.1,r.1⟩,r.2)
def findB (l:List al) (nm:List UInt8):Option Nat:=l.findIdx? fun b=>b.name == nm
def findM (l:List aq) (nm:List UInt8):Option Nat:=l.findIdx? fun m=>m.name == nm
def PS.named (s:PS) (only:Int):Int × PS :=
  let s':=s.word.2
  if s'.x≠0 then (0,s') else match findB s'.L.bodies s.word.1 with
    | some i=>((i:Int),if 0≤only∧(i:Int)≠only then s'.fail 7 else s')
    | none=>(0,s'.fail 5)
def PS.full (s:PS) (only:Int):Int × Int × PS :=
  let b:=(s.named only).1
  let s1:=(s.named only).2.expect 2 [46]
  let s2:=s1.word.2
  if s2.x≠0 then (0,0,s2) else match findM (cH s2.L b) s1.word.1 with
    | some i=>(b,(i:Int),s2)
    | none=>(0,0,s2.fail 5)
def PS.addB (s:PS) (b:al):PS:={ s with L:={ s.L with bodies:=s.L.bodies ++ [b] } }
def PS.addJ (s:PS) (j:aN):PS:={ s with L:={ s.L with joints:=s.L.joints ++ [j] } }
def PS.addD (s:PS) (d:bc):PS:={ s with L:={ s.L with drivers:=s.L.drivers ++ [d] } }
def PS.joint (s:PS) (slide:Bool):PS :=
  let a:=s.word.2.full (-1)
  let b:=a.2.2.full (-1)
  let t:Int × Int × PS:=if slide then b.2.2.full b.1 else (0,0,b.2.2)
  (t.2.2.expect 2 [59]).addJ ⟨s.word.1,if slide then 1 else 0,a.1,a.2.1,b.1,b.2.1,t.2.1⟩
def PS.driver (s:PS):PS :=
  let d:=s.word.2.named (-1)
  (d.2.expect 2 [59]).addD ⟨s.word.1,d.1⟩
def cY:List UInt8:=[98,111,100,121]
def gh:List UInt8:=[112,105,110]
def cZ:List UInt8:=[115,108,105,100,101]
def cI:List UInt8:=[100,114,105,118,101,114]
def aJ:List UInt8:=[108,105,110,107,97,103,101]
noncomputable def PS.item (s:PS):PS :=
  let s':=s.word.2
  if s.word.1=cY then s'.body.2.addB s'.body.1
  else if s.word.1=gh then s'.joint false
  else if s.word.1=cZ then s'.joint true
  else if s.word.1=cI then s'.driver
  else s'.fail 2
noncomputable def PS.items:Nat→PS→PS
  | 0,s=>s
  | f+1,s=>if s.x=0∧s.toks≠[] then PS.items f s.item else s
def L0:ao:=⟨[],[],[],[]⟩
noncomputable def cN (l:List Tkn):PS :=
  let s1:=(⟨l,L0,0⟩:PS).expect 0 aJ
  let s2:=s1.word.2
  let s3:PS:={ s2 with L:={ s2.L with name:=s1.word.1 } }
  PS.items (l.length+1) (s3.expect 2 [59])
inductive ch (s:List UInt8) (x:Int) (L:ao):Prop
  | split (l:List Tkn) (hs:aR s x l) (hx:x≠0) (hL:L=L0)
  | read (l:List Tkn) (hs:aR s 0 l) (hr:(cN l).x=x) (hx:x≠0) (hL:L=L0)
  | check (l:List Tkn) (hs:aR s 0 l) (hr:(cN l).x=0) (hc:dh (cN l).L=x) (hx:x≠0) (hL:L=L0)
  | ok (l:List Tkn) (hs:aR s 0 l) (hr:(cN l).x=0) (hc:dh (cN l).L=0) (hx:x=0) (hL:L=(cN l).L)
theorem xU (s:List UInt8):∃ x L,ch s x L:=by
 obtain ⟨x,l,h⟩:=pR s;by_cases hx:x=0
 ·subst hx
  by_cases hr:(cN l).x=0
  ·by_cases hc:dh (cN l).L=0
   ·exact ⟨_,_,.ok l h hr hc rfl rfl⟩
   exact ⟨_,_,.check l h hr rfl hc rfl⟩
  exact ⟨_,_,.read l h rfl hr rfl⟩
 exact ⟨_,_,.split l h hx rfl⟩
theorem ch.uniq {s:List UInt8}{x y:Int}{L M:ao}(h:ch s x L) (h':ch s y M):x=y∧L=M:=by
 cases h with
 | split l hs hx hL =>
  cases h' with
  | split l' hs' hx' hL'=>exact ⟨(hs.uniq hs').1,by rw [hL,hL']⟩
  | read l' hs' _ _ _=>exact absurd (hs.uniq hs').1 hx
  | check l' hs' _ _ _ _=>exact absurd (hs.uniq hs').1 hx
  | ok l' hs' _ _ _ _=>exact absurd (hs.uniq hs').1 hx
 | read l hs hr hx hL =>
  cases h' with
  | split l' hs' hx' hL'=>exact absurd (hs.uniq hs').1.symm hx'
  | read l' hs' hr' hx' hL' =>
   obtain ⟨_,rfl⟩:=hs.uniq hs';exact ⟨hr.symm.trans hr',by rw [hL,hL']⟩
  | check l' hs' hr' _ _ _ =>
   obtain ⟨_,rfl⟩:=hs.uniq hs';exact absurd (hr.symm.trans hr') hx
  | ok l' hs' hr' _ _ _ =>
   obtain ⟨_,rfl⟩:=hs.uniq hs';exact absurd (hr.symm.trans hr') hx
 | check l hs hr hc hx hL =>
  cases h' with
  | split l' hs' hx' hL'=>exact absurd (hs.uniq hs').1.symm hx'
  | read l' hs' hr' hx' hL' =>
   obtain ⟨_,rfl⟩:=hs.uniq hs';exact absurd (hr'.symm.trans hr) hx'
  | check l' hs' hr' hc' hx' hL' =>
   obtain ⟨_,rfl⟩:=hs.uniq hs';exact ⟨hc.symm.trans hc',by rw [hL,hL']⟩
  | ok l' hs' hr' hc' _ _ =>
   obtain ⟨_,rfl⟩:=hs.uniq hs';exact absurd (hc.symm.trans hc') hx
 | ok l hs hr hc hx hL =>
  cases h' with
  | split l' hs' hx' hL'=>exact absurd (hs.uniq hs').1.symm hx'
  | read l' hs' hr' hx' hL' =>
   obtain ⟨_,rfl⟩:=hs.uniq hs';exact absurd (hr'.symm.trans hr) hx'
  | check l' hs' hr' hc' hx' hL' =>
   obtain ⟨_,rfl⟩:=hs.uniq hs';exact absurd (hc'.symm.trans hc) hx'
  | ok l' hs' hr' hc' hx' hL' =>
   obtain ⟨_,rfl⟩:=hs.uniq hs';exact ⟨by rw [hx,hx'],by rw [hL,hL']⟩
def Stp (d:Nat) (s s':PS):Prop:=s'.toks.length≤s.toks.length∧(s.x≠0→s'=s)∧(s'.x=0→s.x=0∧s'.toks.length+d≤s.toks.length)∧s'.L=s.L
theorem Stp.refl (s:PS):Stp 0 s s:=⟨Qr,fun _=>rfl,fun h=>⟨h,Qr⟩,rfl⟩
theorem Stp.trans {d e:Nat}{a b c:PS}(h:Stp d a b) (k:Stp e b c):Stp (d+e) a c :=
 ⟨Nat.le_trans k.1 h.1,fun hx=>by have:=h.2.1 hx;subst this;exact k.2.1 hx,fun hx=>by
  obtain ⟨h1,h2⟩:=k.2.2.1 hx;obtain ⟨h3,h4⟩:=h.2.2.1 h1
  exact ⟨h3,by omega⟩,k.2.2.2.trans h.2.2.2⟩
theorem Stp.mono {d e:Nat}{a b:PS}(h:Stp d a b) (he:e≤d):Stp e a b:=⟨h.1,h.2.1,fun hx=>⟨(h.2.2.1 hx).1,by have:=(h.2.2.1 hx).2;omega⟩,h.2.2.2⟩
theorem Stp.sameL {d:Nat}{s s':PS}(h:Stp d s s'):s'.L=s.L:=h.2.2.2
theorem ff (s:PS) (e:Int) (he:e≠0) (d:Nat):Stp d s (s.fail e):=by
 unfold PS.fail;split
 ·rename_i hx
  exact ⟨Qr,fun h=>absurd hx h,fun h=>absurd h he,rfl⟩
 rename_i hx;exact ⟨Qr,fun _=>rfl,fun h=>absurd h hx,rfl⟩
theorem next_cases (s:PS) (k:Nat):(∃ t r,s.x=0∧s.toks=t :: r∧t.kind=k∧s.next k=(some t.text,s))∨(∃ s',s.next k=(none,s')∧∀ d,Stp d s s'):=by
 unfold PS.next;split
 ·rename_i hx
  exact .inr ⟨s,rfl,fun d=>⟨Qr,fun _=>rfl,fun h=>absurd h hx,rfl⟩⟩
 rename_i hx;have hx:s.x=0:=by simpa using hx
 split
 ·exact .inr ⟨_,rfl,fun d=>⟨Qr,fun h=>absurd hx h,fun h=>absurd (show (18:Int)=0 from h) (by decide),rfl⟩⟩
 rename_i t r e;split
 ·rename_i hk
  exact .inl ⟨t,r,hx,e,hk,rfl⟩
 exact .inr ⟨_,rfl,fun d=>⟨Qr,fun h=>absurd hx h,fun h=>absurd (show (2:Int)=0 from h) (by decide),rfl⟩⟩
theorem ki {s:PS}{t:Tkn}{r:List Tkn}(hx:s.x=0) (e:s.toks=t :: r):Stp 1 s s.drop1:=by
 refine ⟨?_,fun h=>absurd hx h,fun _=>⟨hx,?_⟩,rfl⟩
 ·show (s.toks.drop 1).length≤_
  simp
 show (s.toks.drop 1).length+1≤_;rw [e];simp
theorem ar (s:PS):Stp 1 s s.word.2:=by
 unfold PS.word;rcases next_cases s 0 with ⟨t,r,hx,e,_,h⟩ | ⟨s',h,hs⟩
 ·rw [h];exact ki hx e
 rw [h];exact hs 1
theorem ay (s:PS) (k:Nat) (t:List UInt8):Stp 1 s (s.expect k t):=by
 unfold PS.expect;rcases next_cases s k with ⟨t0,r,hx,e,_,h⟩ | ⟨s',h,hs⟩
 ·rw [h]
  show Stp 1 s (if t0.text=t then s.drop1 else s.fail 2);split
  ·exact ki hx e
  exact ff s 2 (by decide) 1
 rw [h];exact hs 1
theorem dM (s:PS):Stp 1 s s.number.2:=by
 unfold PS.number;rcases next_cases s 1 with ⟨t0,r,hx,e,_,h⟩ | ⟨s',h,hs⟩
 ·rw [h]
  show Stp 1 s (if valX t0.text≠0 then _ else _:Rat × PS).2;split
  ·rename_i hv
   exact ff s _ hv 1
  exact ki hx e
 rw [h];exact hs 1
theorem gU (s:PS):Stp 4 s s.mark.2:=(((ar s).trans (dM _)).trans (dM _)).trans (ay _ _ _)
theorem gi {s:PS}(h:∀ t∈s.toks,NmL t.text):NmL s.word.1:=by
 unfold PS.word;rcases next_cases s 0 with ⟨t,r,hx,e,_,h1⟩ | ⟨s',h1,_⟩
 ·rw [h1];exact h t (by rw [e];simp)
 rw [h1];show ([]:List UInt8).length < _;decide
theorem ix {f:Nat}{s:PS}{l:List aq}(h:s.x≠0):PS.marks f s l=(l,s):=by
 cases f
 ·rfl
 exact if_pos h
theorem fV {f:Nat}{s:PS}{l:List aq}(hf:0 < f) (h:s.x=0) (hs:s.signHead=true):PS.marks f s l=(l,s.expect 2 [125]):=by
 obtain ⟨f,rfl⟩:∃ g,f=g+1:=⟨f - 1,by omega⟩;show (if s.x≠0 then _ else if s.signHead then _ else _)=_;rw [if_neg (by simp [h]),if_pos hs]
theorem dm {f:Nat}{s:PS}{l:List aq}(hf:0 < f) (h:s.x=0) (hs:s.signHead=false):PS.marks f s l=PS.marks (f - 1) s.mark.2 (l ++ [s.mark.1]):=by
 obtain ⟨f,rfl⟩:∃ g,f=g+1:=⟨f - 1,by omega⟩;show (if s.x≠0 then _ else if s.signHead then _ else _)=_;rw [if_neg (by simp [h]),if_neg (by simp [hs])];rfl
theorem nB:∀ (f:Nat) (s:PS) (l:List aq),Stp 0 s (PS.marks f s l).2
 | 0,s,_=>Stp.refl s
 | f+1,s,l=>by
  by_cases h:s.x=0
  ·cases hs:s.signHead
   ·rw [dm (by omega) h hs]
    exact ((gU s).trans (nB f _ _)).mono (by omega)
   rw [fV (by omega) h hs];exact (ay _ _ _).mono (by omega)
  rw [ix h];exact Stp.refl s
theorem jQ (s:PS):Stp 2 s s.body.2:=(((ar s).trans (ay _ _ _)).trans (nB _ _ _)).mono (by omega)
theorem eT (s:PS) (only:Int):Stp 1 s (s.named only).2:=by
 unfold PS.named;simp only;split
 ·rename_i hx
  exact ar s
 split
 ·split
  ·exact ((ar s).trans (ff _ 7 (by decide) 0)).mono (by omega)
  exact ar s
 exact ((ar s).trans (ff _ 5 (by decide) 0)).mono (by omega)
theorem ci (s:PS) (only:Int):Stp 3 s (s.full only).2.2:=by
 have h:=((eT s only).trans (ay _ 2 [46])).trans (ar _);unfold PS.full;simp only;split
 ·exact h
 split
 ·exact h
 exact (h.trans (ff _ 5 (by decide) 0)).mono (by omega)
theorem iy {s:PS}(h:s.word.1≠[]):s.word.2.toks.length+1=s.toks.length∧s.x=0:=by
 unfold PS.word at h ⊢;rcases next_cases s 0 with ⟨t,r,hx,e,_,h1⟩ | ⟨s',h1,_⟩
 ·rw [h1]
  refine ⟨?_,hx⟩;show (s.toks.drop 1).length+1=_;rw [e];simp
 rw [h1] at h;exact absurd rfl h
theorem nC:∀ (f:Nat) (s:PS) (l:List aq),(PS.marks f s l).1.length≤l.length+s.toks.length+(if s.x=0 then 1 else 0)
 | 0,s,l=>by
  show l.length≤_;omega
 | f+1,s,l=>by
  by_cases h:s.x=0
  ·cases hs:s.signHead
   ·rw [dm (by omega) h hs,if_pos h]
    have h1:=nC f s.mark.2 (l ++ [s.mark.1]);have h2:=gU s;rw [List.length_append,List.length_singleton] at h1;show (PS.marks f s.mark.2 _).1.length≤_;by_cases hx:s.mark.2.x=0
    ·have:=(h2.2.2.1 hx).2
     rw [if_pos hx] at h1;omega
    have:=h2.1;rw [if_neg hx] at h1;omega
   rw [fV (by omega) h hs];show l.length≤_;omega
  rw [ix h];show l.length≤_;omega
theorem vR (s:PS):s.body.1.pts.length≤s.toks.length+1:=by
 have h:=nC (s.toks.length+1) (s.word.2.expect 2 [123]) [];have h2:=((ar s).trans (ay s.word.2 2 [123])).1;show (PS.marks (s.toks.length+1) (s.word.2.expect 2 [123]) []).1.length≤_;simp only [List.length_nil,Nat.zero_add] at h;split at h <;> omega
theorem vS {l:List al}{nm:List UInt8}{i:Nat}(h:findB l nm=some i):i < l.length:=by
 unfold findB at h;exact (List.findIdx?_eq_some_iff_findIdx_eq.1 h).1
theorem vT (s:PS) (only:Int) (h:(s.named only).2.x=0):∃ i:Nat,(s.named only).1=(i:Int)∧i < s.L.bodies.length:=by
 have hL:=(ar s).2.2.2;unfold PS.named at h ⊢;simp only at h ⊢;split at h
 ·rename_i hx;exact absurd h hx
 rename_i hx;rw [if_neg hx];split at h
 ·rename_i i hi
  exact ⟨i,rfl,by rw [← hL];exact vS hi⟩
 rename_i hn;have:(s.word.2.fail 5).x≠0:=by unfold PS.fail;rw [if_pos (by simpa using hx)];show (5:Int)≠0;decide
 exact absurd h this
theorem iA (s:PS) (b:Bool):(s.joint b).toks.length≤s.toks.length∧((s.joint b).x=0→s.x=0):=by
 have h0:=ar s;have h1:=ci s.word.2 (-1);unfold PS.joint;cases b
 ·simp only [Bool.false_eq_true,if_false]
  generalize s.word.2.full (-1)=fa at h1 ⊢;have h2:=ci fa.2.2 (-1);generalize fa.2.2.full (-1)=fb at h2 ⊢;have h:=((h0.trans h1).trans h2).trans (ay fb.2.2 2 [59]);exact ⟨h.1,fun hx=>(h.2.2.1 hx).1⟩
 simp only [if_true];generalize s.word.2.full (-1)=fa at h1 ⊢;have h2:=ci fa.2.2 (-1);generalize fa.2.2.full (-1)=fb at h2 ⊢;have h4:=ci fb.2.2 fb.1;generalize fb.2.2.full fb.1=ft at h4 ⊢;have h:=(((h0.trans h1).trans h2).trans h4).trans (ay ft.2.2 2 [59]);exact ⟨h.1,fun hx=>(h.2.2.1 hx).1⟩
theorem lR (s:PS):s.driver.toks.length≤s.toks.length∧(s.driver.x=0→s.x=0):=by
 have h:=((ar s).trans (eT _ (-1))).trans (ay _ 2 [59]);unfold PS.driver;exact ⟨h.1,fun hx=>(h.2.2.1 hx).1⟩
theorem pY (s:PS):s.item.toks.length≤s.toks.length∧(s.item.x=0→s.item.toks.length+1≤s.toks.length):=by
 have hw:=ar s
 have key:∀ s':PS,s'.toks.length≤s.word.2.toks.length→(s'.x=0→s.word.2.x=0)→s'.toks.length≤s.toks.length∧(s'.x=0→s'.toks.length+1≤s.toks.length):=by
  intro s' h1 h2;refine ⟨Nat.le_trans h1 hw.1,fun hx=>?_⟩;have:=(hw.2.2.1 (h2 hx)).2;omega
 unfold PS.item;split
 ·have h:=jQ s.word.2
  exact key _ h.1 (fun hx=>(h.2.2.1 hx).1)
 split
 ·have h:=iA s.word.2 false
  exact key _ h.1 h.2
 split
 ·have h:=iA s.word.2 true
  exact key _ h.1 h.2
 split
 ·have h:=lR s.word.2
  exact key _ h.1 h.2
 have h:=ff s.word.2 2 (by decide) 0;exact key _ h.1 (fun hx=>(h.2.2.1 hx).1)
theorem nD {f:Nat}{s:PS}(h:¬ (s.x=0∧s.toks≠[])):PS.items f s=s:=by
 cases f
 ·rfl
 exact if_neg h
theorem lS {f:Nat}{s:PS}(hf:0 < f) (h:s.x=0∧s.toks≠[]):PS.items f s=PS.items (f - 1) s.item:=by
 obtain ⟨f,rfl⟩:∃ g,f=g+1:=⟨f - 1,by omega⟩;exact if_pos h
def kt (l:List Tkn):List (Nat × List UInt8):=l.map fun t=>(t.kind,t.text)
structure AtK (s:PS) (K:List (Nat × List UInt8)) (L:ao):Prop where
  x:s.x=0
  k:kt s.toks=K
  l:s.L=L
theorem AtK.head {s:PS}{k:Nat}{t:List UInt8}{K:List (Nat × List UInt8)}{L:ao}(h:AtK s ((k,t) :: K) L):∃ u r,s.toks=u :: r∧u.kind=k∧u.text=t∧kt r=K:=by
 have h1:=h.k;unfold kt at h1
 cases e:s.toks with
 | nil=>rw [e] at h1;cases h1
 | cons u r =>
  rw [e,List.map_cons] at h1;injection h1 with h2 h3;injection h2 with h4 h5;exact ⟨u,r,rfl,h4,h5,h3⟩
theorem AtK.next {s:PS}{k:Nat}{t:List UInt8}{K:List (Nat × List UInt8)}{L:ao}(h:AtK s ((k,t) :: K) L):s.next k=(some t,s):=by
 obtain ⟨u,r,e,h1,h2,_⟩:=h.head;unfold PS.next;rw [if_neg (by rw [h.x];simp),e];show (if u.kind=k then (some u.text,s) else _)=_;rw [if_pos h1,h2]
theorem AtK.drop {s:PS}{p:Nat × List UInt8}{K:List (Nat × List UInt8)}{L:ao}(h:AtK s (p :: K) L):AtK s.drop1 K L:=by
 obtain ⟨u,r,e,_,_,h3⟩:=AtK.head (k:=p.1) (t:=p.2) h;refine ⟨h.x,?_,h.l⟩;show kt (s.toks.drop 1)=K;rw [e];exact h3
theorem AtK.word {s:PS}{t:List UInt8}{K:List (Nat × List UInt8)}{L:ao}(h:AtK s ((0,t) :: K) L):s.word.1=t∧AtK s.word.2 K L:=by
 unfold PS.word;rw [h.next];exact ⟨rfl,h.drop⟩
theorem AtK.expect {s:PS}{k:Nat}{t:List UInt8}{K:List (Nat × List UInt8)}{L:ao}(h:AtK s ((k,t) :: K) L):AtK (s.expect k t) K L:=by
 unfold PS.expect;rw [h.next];show AtK (if t=t then s.drop1 else s.fail 2) K L;rw [if_pos rfl];exact h.drop
theorem AtK.number {s:PS}{t:List UInt8}{K:List (Nat × List UInt8)}{L:ao}(h:AtK s ((1,t) :: K) L) (hv:valX t=0):s.number.1=valQ t∧AtK s.number.2 K L:=by
 unfold PS.number;rw [h.next];show (if valX t≠0 then (0,s.fail (valX t)) else (valQ t,s.drop1):Rat × PS).1=_∧AtK (if valX t≠0 then (0,s.fail (valX t)) else (valQ t,s.drop1):Rat × PS).2 K L;rw [if_neg (by rw [hv];simp)];exact ⟨rfl,h.drop⟩
/-! Texts of numbers. -/
theorem se (z:Int):∃ m D,isD D∧Lib.itoa z=sg m D∧sgI m (aj D)=z:=by
 obtain ⟨h1,h2⟩:=xz z;generalize Lib.itoa z=s at h1 h2 ⊢;refine ⟨cG s,bR s,?_,?_,?_⟩
 ·unfold okZ at h1
  rw [Bool.and_eq_true,Bool.and_eq_true,decide_eq_true_eq] at h1;exact ⟨h1.1.1,h1.1.2⟩
 ·unfold cG bR sg
  split <;> split <;> simp_all
 unfold fc at h2;unfold sgI;exact h2
theorem kR {m m':Bool}{D D' r r':List UInt8}(h:isD D) (h':isD D') (e:sg m (D ++ r)=sg m' (D' ++ r')):m=m'∧D ++ r=D' ++ r':=by
 obtain ⟨a1,a2⟩:=fU (m:=m) (r:=r) h;obtain ⟨b1,b2⟩:=fU (m:=m') (r:=r') h';rw [e] at a1 a2;exact ⟨a1.symm.trans b1,a2.symm.trans b2⟩
theorem pZ (q:Rat):∃ m D t,isD D∧bg q=sg m (D ++ t)∧((t=[]∧q=((sgI m (aj D):Int):Rat))∨∃ E,isD E∧t=47 :: E∧aj E≠0∧q=Rat.divInt (sgI m (aj D)) (aj E)):=by
 obtain ⟨m,D,hD,e1,e2⟩:=se q.num;by_cases hd:q.den=1
 ·refine ⟨m,D,[],hD,?_,.inl ⟨rfl,?_⟩⟩
  ·rw [tG hd,e1,List.append_nil]
  rw [e2];exact Rat.ext (by simp) (by simp [hd])
 obtain ⟨m',E,hE,e3,e4⟩:=se (q.den:Int);have hp:0 < q.den:=q.den_pos
 have hm':m'=false:=by
  cases m'
  ·rfl
  unfold sgI at e4;rw [if_pos rfl] at e4;omega
 subst hm'
 have e5:aj E=q.den:=by
  unfold sgI at e4;rw [if_neg (by decide)] at e4;omega
 refine ⟨m,D,47 :: E,hD,?_,.inr ⟨E,hE,rfl,by omega,?_⟩⟩
 ·rw [tH hd,e1,e3]
  cases m <;> rfl
 rw [e2,e5,Rat.divInt_ofNat];exact (Rat.mkRat_self q).symm
theorem vU {e:List UInt8}(he:∀ c t,e=c :: t→c=32∨c=59):eu e=0∧oj e=false∧∀ c t,e=c :: t→aK c=false:=by
 cases e with
 | nil=>exact ⟨rfl,rfl,fun c t h=>by cases h⟩
 | cons c t =>
  rcases he c t rfl with rfl | rfl
  ·refine ⟨?_,rfl,fun c t h=>by injection h with h _;subst h;decide⟩
   rw [eu,show ((32:UInt8) == 46 || (32:UInt8) == 47)=false from by decide];rfl
  refine ⟨?_,rfl,fun c t h=>by injection h with h _;subst h;decide⟩;rw [eu,show ((59:UInt8) == 46 || (59:UInt8) == 47)=false from by decide];rfl
theorem sh {m:Bool}{D t e:List UInt8}(hD:isD D) (ht:t=[]∨∃ E,isD E∧t=47 :: E) (he:∀ c t,e=c :: t→c=32∨c=59):bC (sg m (D ++ t) ++ e)=(sg m (D ++ t)).length:=by
 obtain ⟨t0,_,td⟩:=vU he;have hDp:0 < D.length:=List.length_pos_iff.2 hD.1
 have hte:∀ c r,t ++ e=c :: r→aK c=false:=by
  rcases ht with rfl | ⟨E,_,rfl⟩
  ·exact td
  intro c r h;injection h with h _;subst h;decide
 have htl:eu (t ++ e)=t.length:=by
  rcases ht with rfl | ⟨E,hE,rfl⟩
  ·exact t0
  ·have hE1:cg (E ++ e)=E.length:=by
    unfold cg;rw [lA e hE.2 td]
   have hEp:0 < E.length:=List.length_pos_iff.2 hE.1;rw [List.cons_append,eu,hE1,show ((47:UInt8) == 46 || (47:UInt8) == 47)=true from by decide,Bool.true_and,if_pos (by simpa using hEp),List.length_cons];omega
 have hdig:cg (D ++ (t ++ e))=D.length:=by
  unfold cg;rw [lA (t ++ e) hD.2 hte]
 have key:∀ s:List UInt8,cK s=(if m then 1 else 0)→s.drop (cK s)=D ++ (t ++ e)→bC s=(if m then 1 else 0)+D.length+t.length:=by
  intro s h1 h2;unfold bC;rw [h2,hdig,if_neg (by omega),← List.drop_drop,h2,List.drop_left,htl,h1]
 have:=key (sg m (D ++ t) ++ e) ?_ ?_
 ·rw [this]
  unfold sg;cases m <;> simp <;> omega
 ·cases m
  ·obtain ⟨c,r,rfl,hc⟩:=fT hD
   have h45:c≠45:=by rintro rfl;exact absurd hc (by decide)
   show cK (c :: (r ++ t ++ e))=0;unfold cK;split
   ·rename_i h1;injection h1 with h2;exact absurd h2 h45
   rfl
  rfl
 cases m
 ·obtain ⟨c,r,rfl,hc⟩:=fT hD
  have h45:c≠45:=by rintro rfl;exact absurd hc (by decide)
  have:cK (sg false (c :: r ++ t) ++ e)=0:=by
   show cK (c :: (r ++ t ++ e))=0;unfold cK;split
   ·rename_i h1;injection h1 with h2;exact absurd h2 h45
   rfl
  rw [this];show c :: r ++ t ++ e=_;rw [List.append_assoc]
 show D ++ t ++ e=_;rw [List.append_assoc]
theorem si {q:Rat}(hl:(bg q).length≤60):valX (bg q)=0∧valQ (bg q)=q:=by
 obtain ⟨m,D,t,hD,hs,hq⟩:=pZ q;have h:=val_out (bg q)
 have hn:bC (bg q)=(bg q).length:=by
  have:=sh (m:=m) (D:=D) (t:=t) (e:=[]) hD (by rcases hq with ⟨h,_⟩ | ⟨E,hE,h,_⟩;exact .inl h;exact .inr ⟨E,hE,h⟩) (fun c t h=>by cases h);rw [List.append_nil] at this;rw [hs];exact this
 have hpos:(bg q).length≠0:=by
  obtain ⟨c,r,e,_⟩:=fT hD;rw [hs,e];cases m <;> simp [sg]
 generalize valX (bg q)=x at h ⊢;generalize valQ (bg q)=y at h ⊢;have no47:∀ {F:List UInt8},isD F→(47:UInt8) ∉ F:=fun h=>gf h (by decide)
 have no46:∀ {F:List UInt8},isD F→(46:UInt8) ∉ F:=fun h=>gf h (by decide)
 cases h with
 | large h1 _ _=>omega
 | bad _ hb _ _ =>
  rcases hb with hb | hb
  ·exact absurd hb hpos
  exact absurd hn hb
 | whole m' D' _ _ hD' hs' hx hy =>
  have e0:=hs.symm.trans hs';rw [show D'=D' ++ [] by simp] at e0;obtain ⟨rfl,e⟩:=kR hD hD' e0;rcases hq with ⟨rfl,hq⟩ | ⟨E,hE,rfl,h0,hq⟩
  ·rw [List.append_nil,List.append_nil] at e
   subst e;exact ⟨hx,hy.trans hq.symm⟩
  exfalso;rw [List.append_nil] at e;exact no47 hD' (e ▸ List.mem_append_right _ (List.mem_cons_self))
 | quo0 m' D' E' _ _ hD' hE' hs' h0' _ _ =>
  exfalso;have e0:=hs.symm.trans hs';obtain ⟨rfl,e⟩:=kR hD hD' e0;rcases hq with ⟨rfl,hq⟩ | ⟨E,hE,rfl,h0,hq⟩
  ·rw [List.append_nil] at e
   exact no47 hD (e ▸ List.mem_append_right _ (List.mem_cons_self))
  obtain ⟨_,e2⟩:=pM (no47 hD) (no47 hD') e;subst e2;exact h0 h0'
 | quo m' D' E' _ _ hD' hE' hs' h0' hx hy =>
  have e0:=hs.symm.trans hs';obtain ⟨rfl,e⟩:=kR hD hD' e0;rcases hq with ⟨rfl,hq⟩ | ⟨E,hE,rfl,h0,hq⟩
  ·exfalso
   rw [List.append_nil] at e;exact no47 hD (e ▸ List.mem_append_right _ (List.mem_cons_self))
  obtain ⟨e1,e2⟩:=pM (no47 hD) (no47 hD') e;subst e1 e2;exact ⟨hx,hy.trans hq.symm⟩
 | dot m' D' E' _ _ hD' hE' hs' hx hy =>
  exfalso;have e0:=hs.symm.trans hs';obtain ⟨rfl,e⟩:=kR hD hD' e0;have h46:(46:UInt8)∈D ++ t:=e ▸ List.mem_append_right _ (List.mem_cons_self);rcases List.mem_append.1 h46 with h | h
  ·exact no46 hD h
  rcases hq with ⟨rfl,hq⟩ | ⟨E,hE,rfl,h0,hq⟩
  ·cases h
  rcases List.mem_cons.1 h with h | h
  ·exact absurd h (by decide)
  exact no46 hE h
/-! Tokens of a text. -/
def Spl (s:List UInt8) (K:List (Nat × List UInt8)):Prop:=∀ line col,Bn.shape (tk s line col)=some K
theorem Spl.nil:Spl [] []:=fun _ _=>rfl
theorem Spl.line {s:List UInt8}{K:List (Nat × List UInt8)}(h:Spl s K):Spl (10 :: s) K:=fun line col=>by rw [kN];exact h _ _
theorem Spl.blank {s:List UInt8}{K:List (Nat × List UInt8)}(h:Spl s K):Spl (32 :: s) K:=fun line col=>by rw [jJ (by decide)];exact h _ _
theorem Spl.tok {x s:List UInt8}{k:Nat}{K:List (Nat × List UInt8)}(h0:x≠[]) (hf:aV (x ++ s)=.ok k x.length) (h:Spl s K):Spl (x ++ s) ((k,x) :: K):=fun line col=>by
 obtain ⟨c,r,rfl⟩:=List.exists_cons_of_ne_nil h0;rw [List.cons_append] at hf;rw [List.cons_append,qL hf,qM,← List.cons_append,List.drop_left,List.take_left,h];rfl
theorem Spl.sign {c:UInt8}{s:List UInt8}{K:List (Nat × List UInt8)}(hc:cQ c=true) (h:Spl s K):Spl (c :: s) ((2,[c]) :: K) :=
 Spl.tok (x:=[c]) (by simp) (by show aV (c :: s)=_;unfold aV;simp only [hc,if_true];rfl) h
theorem kC {c:UInt8}(h:bW c=true):cQ c=false:=by
 cases hs:cQ c
 ·rfl
 unfold cQ at hs;simp only [Bool.or_eq_true,beq_iff_eq] at hs;rcases hs with ((e | e) | e) | e <;> subst e <;> exact absurd h (by decide)
theorem Spl.word {x s:List UInt8}{K:List (Nat × List UInt8)}(hx:aP x=true) (hs:∀ c t,s=c :: t→aM c=false) (h:Spl s K):Spl (x ++ s) ((0,x) :: K):=by
 have ha:=vP hx;unfold aP at hx;simp only [Bool.and_eq_true,decide_eq_true_eq] at hx;obtain ⟨⟨h1,h2⟩,h3⟩:=hx;refine Spl.tok ha.1 ?_ h
 cases x with
 | nil=>exact absurd rfl ha.1
 | cons c t =>
  have hl:bW c=true:=by
   rw [bl] at h1;split at h1
   ·assumption
   omega
  have ht:t.all aM=true:=List.all_eq_true.2 fun d hd=>ha.2 d (by simp [hd])
  have hw:bl (c :: (t ++ s))=(c :: t).length:=by
   rw [bl,if_pos hl,lA s ht hs,List.length_cons];omega
  show aV (c :: (t ++ s))=_;unfold aV;simp only [kC hl,hw,Bool.false_eq_true,if_false];rw [if_pos (by simp),if_neg (by omega)]
theorem zK {c:UInt8}(h:aK c=true∨c=45):cQ c=false∧bW c=false:=by
 rcases h with h | rfl
 ·unfold aK at h
  simp only [Bool.and_eq_true,decide_eq_true_eq] at h;constructor
  ·cases hs:cQ c
   ·rfl
   unfold cQ at hs;simp only [Bool.or_eq_true,beq_iff_eq] at hs;rcases hs with ((e | e) | e) | e <;> subst e <;> exact absurd h (by decide)
  unfold bW;simp only [Bool.or_eq_false_iff,Bool.and_eq_false_iff,decide_eq_false_iff_not];omega
 decide
theorem Spl.num {q:Rat}{s:List UInt8}{K:List (Nat × List UInt8)}(hl:(bg q).length≤60) (hs:∀ c t,s=c :: t→c=32∨c=59) (h:Spl s K):Spl (bg q ++ s) ((1,bg q) :: K):=by
 obtain ⟨m,D,t,hD,e,hq⟩:=pZ q
 have hn:bC (bg q ++ s)=(bg q).length:=by
  rw [e];exact sh hD (by rcases hq with ⟨h,_⟩ | ⟨E,hE,h,_⟩;exact .inl h;exact .inr ⟨E,hE,h⟩) hs
 have hc:∃ c r,bg q=c :: r∧(aK c=true∨c=45):=by
  obtain ⟨c,r,e2,h2⟩:=fT hD;rw [e,e2];cases m
  ·exact ⟨c,r ++ t,rfl,.inl h2⟩
  exact ⟨45,_,rfl,.inr rfl⟩
 obtain ⟨c,r,e3,h3⟩:=hc;obtain ⟨h4,h5⟩:=zK h3;refine Spl.tok (by rw [e3];simp) ?_ h;rw [e3] at hn hl ⊢;rw [List.cons_append] at hn ⊢;have hw:bl (c :: (r ++ s))=0:=by rw [bl,h5];rfl
 unfold aV;simp only [h4,hw,hn,Bool.false_eq_true,if_false];rw [if_neg (by omega),if_neg (by simp),if_neg (by omega),← List.cons_append,List.drop_left,(vU hs).2.1];rfl
def eI (w:World) (g0:Nat):Prop:=∀ o v,w.cell? ⟨g0,o,none⟩=some v→v=ae []∨v=.slice none 0 0∨v=.bool false
def Off (g0:Nat) (w w':World):Prop:=(∀ g,g≠g0→w'.heap[g]?=w.heap[g]?)∧w'.heap.size=w.heap.size
theorem Off.refl (g0:Nat) (w:World):Off g0 w w:=⟨fun _ _=>rfl,rfl⟩
theorem Off.set {g0:Nat}{w w':World}(h:Off g0 w w') (i:Nat) (u:Value):Off g0 w (w'.setCell ⟨g0,i,none⟩ u) :=
 ⟨fun g hg=>(Below.heap_setCell w' ⟨g0,i,none⟩ u g hg).trans (h.1 g hg),by simp [World.setCell,h.2]⟩
section
variable {g0:Nat}{w w':World}
theorem eI.str {g o:Nat}{s:List UInt8}(z:eI w g0) (h:w.cell? ⟨g,o,none⟩=some (ae s)) (hs:s≠[]):g≠g0:=by
 rintro rfl;rcases z o _ h with e | e | e
 ·injection e with e
  injection e with e;injection e with e;exact hs e
 ·cases e
 cases e
theorem bS {g o:Nat}(hg:g≠g0) (h:Off g0 w w'):w'.cell? ⟨g,o,none⟩=w.cell? ⟨g,o,none⟩:=by
 unfold World.cell?;rw [h.1 g hg]
theorem Wd.off {A:Option Addr}{n c:Nat}{l:List Nat}(x:Wd w A n c l) (z:eI w g0) (h:Off g0 w w'):Wd w' A n c l:=by
 refine ⟨x.1,x.2.1,x.2.2.1,fun hn=>?_⟩;obtain ⟨g,o,cur,fr,e,hr,hc⟩:=x.2.2.2 hn
 have hne:g≠g0:=by
  rintro rfl;have h0:=hc 0 hn;rw [← hr.cell] at h0;rcases z _ _ h0 with e | e | e <;> cases e
 exact ⟨g,o,cur,fr,e,hr.same (h.1 g hne),hc⟩
theorem QD.off {b:Bool}{A D:Option Addr}{n c m e k:Nat}{r:RD}(x:QD w b A n c D m e r k) (z:eI w g0) (h:Off g0 w w'):QD w' b A n c D m e r k:=⟨x.1,x.2.1.off z h,x.2.2.1.off z h,x.2.2.2⟩
theorem dG.off {g o k:Nat}{r:RD}(hg:g≠g0) (x:dG w g o r k) (z:eI w g0) (h:Off g0 w w'):dG w' g o r k:=by
 obtain ⟨b,A,n,c,D,m,e,h1,h2,h3,h4⟩:=x;exact ⟨b,A,n,c,D,m,e,(bS hg h).trans h1,(bS hg h).trans h2,(bS hg h).trans h3,h4.off z h⟩
theorem eN.off {g o k:Nat}{m:aq}(hm:m.name≠[]) (x:eN k w g o m) (z:eI w g0) (h:Off g0 w w'):eN k w' g o m:=by
 have hg:=z.str x.1 hm;exact ⟨(bS hg h).trans x.1,x.2.1.off hg z h,x.2.2.1.off hg z h,x.2.2.2⟩
theorem SlS.off {α:Type}{P:World→Nat→Nat→α→Prop}{s:Nat}{A:Option Addr}{n c:Nat}{l:List α}(x:SlS P s w A n c l) (hP:∀ g o a,a∈l→P w g o a→P w' g o a) (h:Off g0 w w'):SlS P s w' A n c l:=by
 refine ⟨x.1,x.2.1,fun hn=>?_⟩;obtain ⟨g,o,e,hg,h3⟩:=x.2.2 hn;exact ⟨g,o,e,by rw [h.2];exact hg,fun i a ha=>hP _ _ _ (List.mem_of_getElem? ha) (h3 i a ha)⟩
theorem SlS.offM {k:Nat}{A:Option Addr}{n c:Nat}{l:List aq}(hm:∀ m∈l,m.name≠[]) (x:SlS (eN k) 7 w A n c l) (z:eI w g0) (h:Off g0 w w'):SlS (eN k) 7 w' A n c l:=x.off (fun _ _ a ha y=>y.off (hm a ha) z h) h
theorem fD.off {g o k:Nat}{b:al}(hb:b.name≠[]) (hm:∀ m∈b.pts,m.name≠[]) (x:fD k w g o b) (z:eI w g0) (h:Off g0 w w'):fD k w' g o b:=by
 obtain ⟨A,n,c,h1,h2,h3,h4⟩:=x;have hg:=z.str h1 hb;exact ⟨A,n,c,(bS hg h).trans h1,(bS hg h).trans h2,h3.offM hm z h,h4⟩
theorem kG.off {g o:Nat}{j:aN}(hj:j.name≠[]) (x:kG w g o j) (z:eI w g0) (h:Off g0 w w'):kG w' g o j:=by
 have hg:=z.str x.1 hj;exact ⟨(bS hg h).trans x.1,(bS hg h).trans x.2.1,(bS hg h).trans x.2.2.1,(bS hg h).trans x.2.2.2.1,(bS hg h).trans x.2.2.2.2.1,(bS hg h).trans x.2.2.2.2.2.1,(bS hg h).trans x.2.2.2.2.2.2.1,x.2.2.2.2.2.2.2⟩
theorem kH.off {g o:Nat}{d:bc}(hd:d.name≠[]) (x:kH w g o d) (z:eI w g0) (h:Off g0 w w'):kH w' g o d:=by
 have hg:=z.str x.1 hd;exact ⟨(bS hg h).trans x.1,(bS hg h).trans x.2.1,x.2.2⟩
structure AQ (L:ao):Prop where
  bodies:∀ b∈L.bodies,b.name≠[]∧∀ m∈b.pts,m.name≠[]
  joints:∀ j∈L.joints,j.name≠[]
  drivers:∀ d∈L.drivers,d.name≠[]
theorem LkS.off {k:Nat}{A B C:Option Addr}{n c p d q e:Nat}{L:ao}(hL:AQ L) (x:LkS k w A n c B p d C q e L) (z:eI w g0) (h:Off g0 w w'):LkS k w' A n c B p d C q e L :=
 ⟨x.name,x.bodies.off (fun _ _ a ha y=>y.off (hL.bodies a ha).1 (hL.bodies a ha).2 z h) h,x.joints.off (fun _ _ a ha y=>y.off (hL.joints a ha) z h) h,x.drivers.off (fun _ _ a ha y=>y.off (hL.drivers a ha) z h) h⟩
theorem Blk.zero {g t:Nat}{cs:Array Value}(x:Blk w g t cs) (h:cs.toList.all (fun v=>match v with | .string s=>s.data.isEmpty | .slice none 0 0=>true | .bool false=>true | _=>false)=true):eI w g:=by
 intro o v hv;rw [x.cell] at hv;have hm:v∈cs.toList:=by rw [Array.mem_toList_iff];exact Array.mem_of_getElem? hv
 have:=List.all_eq_true.1 h v hm;split at this
 ·rename_i s
  left;obtain ⟨d⟩:=s;have e:d=#[]:=by simpa using this
  subst e;rfl
 ·exact .inr (.inl rfl)
 ·exact .inr (.inr rfl)
 cases this
end
def OwJ (J:Value→Bool) (w:World) (base:Nat) (e:TypeId) (size:Nat) (v:Value) (n:Nat) (xs:List Value):Prop :=
  xs.length=n * size ∧
  ((v=.slice none 0 0∧n=0) ∨
   ∃ g cap cur,v=.slice (some ⟨g,0,none⟩) n cap∧base≤g∧w.heap[g]?=some (.cells cur e (0,0))∧n≤cap∧cap≤maxLen∧cur.size=cap * size∧cur.toList.take (n * size)=xs∧cur.toList.all J=true)
theorem OwJ.nil (J:Value→Bool) (w:World) (base:Nat) (e:TypeId) (size:Nat):OwJ J w base e size (.slice none 0 0) 0 []:=⟨by simp,.inl ⟨rfl,rfl⟩⟩
section
variable {J:Value→Bool}{w w':World}{base:Nat}{e:TypeId}{size:Nat}{v:Value}{n:Nat}{xs:List Value}
theorem OwJ.belw (h:OwJ J w base e size v n xs) (hb:Below w.heap.size w w'):OwJ J w' base e size v n xs:=by
 refine ⟨h.1,?_⟩;rcases h.2 with h1 | ⟨g,cap,cur,h1,h2,h3,h4⟩
 ·exact .inl h1
 exact .inr ⟨g,cap,cur,h1,h2,(hb.block g (lt_of_block h3)).trans h3,h4⟩
theorem OwJ.own (h:OwJ J w base e size v n xs):w.ownsRow base e size v n xs:=by
 refine ⟨h.1,?_⟩;rcases h.2 with h1 | ⟨g,cap,cur,h1,h2,h3,h4,h5,h6,h7,_⟩
 ·exact .inl h1
 exact .inr ⟨g,cap,cur,h1,h2,h3,h4,h5,h6,h7⟩
theorem OwJ.at_ (h:OwJ J w base e size v n xs) {g:Nat}(hg:v.ownBlock=some g):base≤g∧∃ cur,w.heap[g]?=some (.cells cur e (0,0))∧cur.toList.all J=true:=by
 rcases h.2 with ⟨rfl,_⟩ | ⟨g',cap,cur,rfl,h2,h3,_,_,_,_,h8⟩
 ·cases hg
 injection hg with hg;subst hg;exact ⟨h2,cur,h3,h8⟩
end
section
variable {P:Program}(w:World)
theorem vV {J:Value→Bool}{z:Array Value}(hz:z.toList.all J=true) (h0:0 < z.size) (n:Nat):(Builtin.zeroCells z n).toList.all J=true:=by
 rw [List.all_eq_true] at hz ⊢;intro x hx;unfold Builtin.zeroCells at hx;rw [Array.mem_toList_iff,Array.mem_map] at hx;obtain ⟨i,_,rfl⟩:=hx;have hlt:=Nat.mod_lt i h0;rw [getElem!_pos z _ hlt];exact hz _ (by simp)
theorem jR (J:Value→Bool) (base:Nat) (t ty e:TypeId) (i:TypeInfo) (z:Value) (size bytes:Nat) (ht:P.underlying t=some (.slice e)) (hi:P.info? e=some i) (hz:i.zero=some z)
 (hsize:i.size=size) (hby:i.bytes=bytes) (hzs:z.cells.size=size) (hsz:0 < size) (hJz:z.cells.toList.all J=true)
 (v:Value) (n:Nat) (xs:List Value) (hown:OwJ J w base e size v n xs)
 (a:Addr) (m c:Nat) (news:List Value) (hl:news.length=m * size) (hnews:∀ j u,news[j]?=some u→w.cell? (a.add j)=some u) (h1:∀ u∈news,u.oneCell'=true) (hJn:news.all J=true)
 (hm:0 < m) (h63:n+m≤maxLen) (hbytes:(n+m) * bytes≤140737488355328) (hbase:base≤w.heap.size) :
 ∃ g cap w',(Builtin.append_ #[t,t] ty #[v,.slice (some a) m c]).run P w=.ok (.slice (some ⟨g,0,none⟩) (n+m) cap) w'∧OwJ J w' base e size (.slice (some ⟨g,0,none⟩) (n+m) cap) (n+m) (xs ++ news) ∧
  w.grownBy w' v.ownBlock∧(v.ownBlock=some g∨g=w.heap.size):=by
 subst hsize
 subst hby
 have hsmall:n+m≤9223372036854775807:=by simp only [maxLen] at h63;omega
 have hlen:(xs ++ news).length=(n+m) * i.size:=by rw [List.length_append,hown.1,hl,Nat.add_mul]
 have fresh:∀ (old:Nat),xs.all J=true →
  OwJ J (w.drew.alloc (.cells (xs.toArray ++ news.toArray ++ Builtin.zeroCells z.cells (grownCap w (n+m) old e - (n+m))) e)) base e i.size (.slice (some ⟨w.heap.size,0,none⟩) (n+m) (grownCap w (n+m) old e)) (n+m) (xs ++ news):=by
  intro old hx;have hge:=grownCap_ge w (n+m) old e;refine ⟨hlen,.inr ⟨w.heap.size,_,_,rfl,hbase,heap_alloc_new w.drew _,hge,grownCap_le_maxLen w (n+m) old e h63,?_,?_,?_⟩⟩
  ·simp only [Array.size_append,List.size_toArray,size_zeroCells,hzs,hown.1,hl,← Nat.add_mul]
   congr 1;omega
  ·simp only [Array.toList_append,List.append_assoc]
   rw [← List.append_assoc,← hlen];exact List.take_left
  simp only [Array.toList_append,List.all_append,hx,hJn,Bool.true_and];exact vV hJz (by omega) _
 have gb:∀ (o:Obj) (row:Option Nat),w.grownBy (w.drew.alloc o) row:=fun o row=>⟨rfl,rfl,rfl,by simp,fun k hk _=>Below.heap_alloc w.drew o k hk⟩
 rcases hown.2 with ⟨rfl,rfl⟩ | ⟨g,cap,cur,rfl,hbg,hg,hnc,hcm,hcs,htake,hJ⟩
 ·have hx:xs=[]:=List.eq_nil_of_length_eq_zero (by simpa using hown.1)
  subst hx;have hr:=run_append_nil (P:=P) w t ty e i z ht hi hz a m c news hl hnews (by omega) (by omega) (by have hb:=hbytes;simp only [Nat.zero_add] at hb;omega);have hf:=fresh 0 rfl;simp only [Nat.zero_add,List.nil_append,Array.empty_append] at hf ⊢;exact ⟨_,_,_,hr,hf,gb _ _,.inr rfl⟩
 by_cases hroom:n+m≤cap
 ·have hfit:n * i.size+news.length≤cur.size:=by rw [hl,hcs,← Nat.add_mul];exact Nat.mul_le_mul_right _ hroom
  have hr:=run_append_room (P:=P) w t ty e i ht hi g n cap cur hg a m c news hl hnews h1 hroom hfit;refine ⟨g,cap,_,hr,⟨hlen,.inr ⟨g,cap,_,rfl,hbg,setRow_heap w g cur _ e _ hg,hroom,hcm,?_,?_,?_⟩⟩,⟨rfl,rfl,rfl,by simp,fun k _ hk=>setRow_other w g k _ (fun e=>hk (by simp [Value.ownBlock,e]))⟩,.inl rfl⟩
  ·simp only [List.size_toArray,List.length_append,List.length_take,List.length_drop,Array.length_toList]
   omega
  ·rw [htake,← hlen]
   exact List.take_left
  rw [List.all_eq_true] at hJ hJn ⊢;intro x hx;rcases List.mem_append.1 hx with hx | hx
  ·rcases List.mem_append.1 hx with hx | hx
   ·exact hJ x (List.mem_of_mem_take hx)
   exact hJn x hx
  exact hJ x (List.mem_of_mem_drop hx)
 have holds:∀ j u,xs[j]?=some u→w.cell? ((⟨g,0,none⟩:Addr).add j)=some u:=hown.own.cells (g:=g) rfl;have hr:=run_append_grow (P:=P) w t ty e i z ht hi hz ⟨g,0,none⟩ n cap xs hown.1 holds a m c news hl hnews (by omega) (by omega) (growslice_fits (by omega) hbytes);exact ⟨_,_,_,hr,fresh cap (by rw [List.all_eq_true] at hJ ⊢;intro x hx;rw [← htake] at hx;exact hJ x (List.mem_of_mem_take hx)),gb _ _,.inr rfl⟩
theorem ce {ops:Array Oper}{rest:List Oper}{o:Oper}{a:Act}{Q:Exit→Act→World→Prop}(hgd:o.guard=none) (J:Value→Bool) (s x:Operand) (t:TypeId)
 (ho:o.op=.call { callee:=.builtin .append,args:=#[s,x],argTypes:=#[t,t] })
 (base:Nat) (e:TypeId) (i:TypeInfo) (z:Value) (size bytes:Nat) (ht:P.underlying t=some (.slice e)) (hi:P.info? e=some i) (hz:i.zero=some z)
 (hsize:i.size=size) (hby:i.bytes=bytes) (hzs:z.cells.size=size) (hsz:0 < size) (hJz:z.cells.toList.all J=true)
 (v:Value) (n:Nat) (xs:List Value) (hs:a.eval s=v) (hown:OwJ J w base e size v n xs)
 (ad:Addr) (m c:Nat) (news:List Value) (hx:a.eval x=.slice (some ad) m c) (hl:news.length=m * size) (hnews:∀ j u,news[j]?=some u→w.cell? (ad.add j)=some u) (h1:∀ u∈news,u.oneCell'=true) (hJn:news.all J=true)
 (hm:0 < m) (h63:n+m≤maxLen) (hbytes:(n+m) * bytes≤140737488355328) (hbase:base≤w.heap.size)
 (h:∀ g cap w',OwJ J w' base e size (.slice (some ⟨g,0,none⟩) (n+m) cap) (n+m) (xs ++ news)→w.grownBy w' v.ownBlock→(v.ownBlock=some g∨g=w.heap.size)→wpList P ops Q rest (a.put o.dst (.slice (some ⟨g,0,none⟩) (n+m) cap)) w'):wpList P ops Q (o :: rest) a w :=
 wpList_plain hgd fun _ hK=>by
  obtain ⟨g,cap,w',hr,h2,h3,h4⟩:=jR (P:=P) w J base t o.type e i z size bytes ht hi hz hsize hby hzs hsz hJz v n xs hown ad m c news hl hnews h1 hJn hm h63 hbytes hbase;unfold Oper.wp execOp;simp only [ho,resolve,invoke,builtin,Sem.run_bind,Sem.run_pure,Result.andThen_ok,List.map_toArray,List.map_cons,List.map_nil,hs,hx,hr];exact hK _ _ (h g cap w' h2 h3 h4)
theorem fq {o:Oper}{a:Act}{K:Act→World→Prop}{Q:Exit→Act→World→Prop}(J:Value→Bool) (s x:Operand) (t:TypeId)
 (ho:o.op=.call { callee:=.builtin .append,args:=#[s,x],argTypes:=#[t,t] })
 (base:Nat) (e:TypeId) (i:TypeInfo) (z:Value) (size bytes:Nat) (ht:P.underlying t=some (.slice e)) (hi:P.info? e=some i) (hz:i.zero=some z)
 (hsize:i.size=size) (hby:i.bytes=bytes) (hzs:z.cells.size=size) (hsz:0 < size) (hJz:z.cells.toList.all J=true)
 (v:Value) (n:Nat) (xs:List Value) (hs:a.eval s=v) (hown:OwJ J w base e size v n xs)
 (ad:Addr) (m c:Nat) (news:List Value) (hx:a.eval x=.slice (some ad) m c) (hl:news.length=m * size) (hnews:∀ j u,news[j]?=some u→w.cell? (ad.add j)=some u) (h1:∀ u∈news,u.oneCell'=true) (hJn:news.all J=true)
 (hm:0 < m) (h63:n+m≤maxLen) (hbytes:(n+m) * bytes≤140737488355328) (hbase:base≤w.heap.size)
 (h:∀ g cap w',OwJ J w' base e size (.slice (some ⟨g,0,none⟩) (n+m) cap) (n+m) (xs ++ news)→w.grownBy w' v.ownBlock→(v.ownBlock=some g∨g=w.heap.size)→K (a.put o.dst (.slice (some ⟨g,0,none⟩) (n+m) cap)) w'):o.wp P a w K Q:=by
 obtain ⟨g,cap,w',hr,h2,h3,h4⟩:=jR (P:=P) w J base t o.type e i z size bytes ht hi hz hsize hby hzs hsz hJz v n xs hown ad m c news hl hnews h1 hJn hm h63 hbytes hbase;unfold Oper.wp execOp;simp only [ho,resolve,invoke,builtin,Sem.run_bind,Sem.run_pure,Result.andThen_ok,List.map_toArray,List.map_cons,List.map_nil,hs,hx,hr];exact h g cap w' h2 h3 h4
end
/-! What touches blocks of certain types only. -/
def isU (v:Value):Bool:=match v with | .int .u32 _=>true | _=>false
def noW (v:Value):Bool:=!isU v
def Tch (T:TypeId→Bool) (w w':World):Prop:=w.heap.size≤w'.heap.size∧∀ (g:Nat) cur t fr,w.heap[g]?=some (.cells cur t fr)→(T t=false∨cur.toList.all noW=false)→w'.heap[g]?=some (.cells cur t fr)
section
variable {T:TypeId→Bool}{w w' w2:World}
theorem Tch.refl (w:World):Tch T w w:=⟨Qr,fun _ _ _ _ h _=>h⟩
theorem Tch.trans (h:Tch T w w') (k:Tch T w' w2):Tch T w w2:=⟨Nat.le_trans h.1 k.1,fun g cur t fr x y=>k.2 g cur t fr (h.2 g cur t fr x y) y⟩
theorem Tch.below (h:Below w.heap.size w w'):Tch T w w':=⟨h.size,fun g _ _ _ x _=>(h.block g (lt_of_block x)).trans x⟩
theorem Tch.more (h:Tch T w w') (k:Below w'.heap.size w' w2):Tch T w w2:=h.trans (Tch.below k)
theorem Tch.mono {T':TypeId→Bool}(h:Tch T w w') (hT:∀ t,T t=true→T' t=true):Tch T' w w':=⟨h.1,fun g cur t fr x y=>h.2 g cur t fr x (y.imp (fun h=>by cases e:T t;rfl;rw [hT t e] at h;cases h) id)⟩
theorem Tch.of_ne {g0:Nat}{cur:Array Value}{t:TypeId}{fr:Nat × Nat}(hs:w.heap.size≤w'.heap.size) (hg:w.heap[g0]?=some (.cells cur t fr)) (hT:T t=true) (hc:cur.toList.all noW=true) (h:∀ g,g < w.heap.size→g≠g0→w'.heap[g]?=w.heap[g]?):Tch T w w':=by
 refine ⟨hs,fun g c t' fr' x y=>?_⟩;by_cases e:g=g0
 ·subst e
  rw [hg] at x;injection x with x;injection x with x1 x2;subst x1 x2;rw [hT,hc] at y;rcases y with y | y <;> cases y
 rw [h g (lt_of_block x) e];exact x
theorem Tch.set {g0:Nat}{cur:Array Value}{t:TypeId}(hg:Blk w g0 t cur) (hT:T t=true) (hc:cur.toList.all noW=true) (i:Nat) (u:Value):Tch T w (w.setCell ⟨g0,i,none⟩ u) :=
 Tch.of_ne (by simp [World.setCell]) hg hT hc fun g _ hne=>Below.heap_setCell w ⟨g0,i,none⟩ u g hne
theorem Tch.grown {J:Value→Bool}{base:Nat}{e:TypeId}{size:Nat}{v:Value}{n:Nat}{xs:List Value}(hJ:∀ u,J u=true→noW u=true) (hT:T e=true) (h:OwJ J w base e size v n xs) (hg:w.grownBy w' v.ownBlock):Tch T w w':=by
 cases hv:v.ownBlock with
 | none=>exact ⟨hg.size,fun g _ _ _ x _=>(hg.block g (lt_of_block x) (by rw [hv];simp)).trans x⟩
 | some g0 =>
  obtain ⟨_,cur,h3,h4⟩:=h.at_ hv;refine Tch.of_ne hg.size h3 hT ?_ fun g hlt hne=>hg.block g hlt (by rw [hv];simpa using hne)
  rw [List.all_eq_true] at h4 ⊢;exact fun u hu=>hJ u (h4 u hu)
theorem Wd.tch {A:Option Addr}{n c:Nat}{l:List Nat}(x:Wd w A n c l) (h:Tch T w w'):Wd w' A n c l:=by
 refine ⟨x.1,x.2.1,x.2.2.1,fun hn=>?_⟩;obtain ⟨g,o,cur,fr,e,⟨t,hr,hb⟩,hc⟩:=x.2.2.2 hn;refine ⟨g,o,cur,fr,e,⟨t,hr,h.2 g cur t fr hb (.inr ?_)⟩,hc⟩;have h0:=hc 0 hn;rw [List.all_eq_false];exact ⟨_,by rw [Array.mem_toList_iff];exact Array.mem_of_getElem? h0,by simp [noW,isU]⟩
theorem QD.tch {b:Bool}{A D:Option Addr}{n c m e k:Nat}{r:RD}(x:QD w b A n c D m e r k) (h:Tch T w w'):QD w' b A n c D m e r k:=⟨x.1,x.2.1.tch h,x.2.2.1.tch h,x.2.2.2⟩
end
def SlT {α:Type}(T0:TypeId) (P:World→Nat→Nat→α→Prop) (s:Nat) (w:World) (A:Option Addr) (n c:Nat) (l:List α):Prop :=
  l.length=n∧n≤c∧(0 < n→∃ g o cur fr,A=some ⟨g,o,none⟩∧w.heap[g]?=some (.cells cur T0 fr)∧∀ i a,l[i]?=some a→P w g (o+i * s) a)
theorem SlT.sl {α:Type}{T0:TypeId}{P P':World→Nat→Nat→α→Prop}{s:Nat}{w:World}{A:Option Addr}{n c:Nat}{l:List α}(h:SlT T0 P s w A n c l) (hP:∀ g o a,P w g o a→P' w g o a):SlS P' s w A n c l:=by
 refine ⟨h.1,h.2.1,fun hn=>?_⟩;obtain ⟨g,o,cur,fr,e,hb,h3⟩:=h.2.2 hn;exact ⟨g,o,e,lt_of_block hb,fun i a ha=>hP _ _ _ (h3 i a ha)⟩
theorem SlT.nil {α:Type}(T0:TypeId) (P:World→Nat→Nat→α→Prop) (s:Nat) (w:World):SlT T0 P s w none 0 0 ([]:List α):=⟨rfl,Qr,fun h=>absurd h (by omega)⟩
section
variable {T:TypeId→Bool}{w w':World}
theorem SlT.tch {α:Type}{T0:TypeId}{P:World→Nat→Nat→α→Prop}{s:Nat}{A:Option Addr}{n c:Nat}{l:List α}(x:SlT T0 P s w A n c l) (h:Tch T w w') (hT:T T0=false) (hP:∀ g o a,w'.heap[g]?=w.heap[g]?→P w g o a→P w' g o a):SlT T0 P s w' A n c l:=by
 refine ⟨x.1,x.2.1,fun hn=>?_⟩;obtain ⟨g,o,cur,fr,e,hb,h3⟩:=x.2.2 hn;have hb':=h.2 g cur T0 fr hb (.inl hT);exact ⟨g,o,cur,fr,e,hb',fun i a ha=>hP _ _ _ (hb'.trans hb.symm) (h3 i a ha)⟩
theorem iB {g o:Nat}(hs:w'.heap[g]?=w.heap[g]?):w'.cell? ⟨g,o,none⟩=w.cell? ⟨g,o,none⟩:=by unfold World.cell?;rw [hs]
theorem dG.tch {g o k:Nat}{r:RD}(hs:w'.heap[g]?=w.heap[g]?) (h:Tch T w w') (x:dG w g o r k):dG w' g o r k:=by
 obtain ⟨b,A,n,c,D,m,e,h1,h2,h3,h4⟩:=x;exact ⟨b,A,n,c,D,m,e,(iB hs).trans h1,(iB hs).trans h2,(iB hs).trans h3,h4.tch h⟩
theorem eN.tch {g o k:Nat}{m:aq}(hs:w'.heap[g]?=w.heap[g]?) (h:Tch T w w') (x:eN k w g o m):eN k w' g o m :=
 ⟨(iB hs).trans x.1,x.2.1.tch hs h,x.2.2.1.tch hs h,x.2.2.2⟩
abbrev km (k:Nat) (w:World) (A:Option Addr) (n c:Nat) (l:List aq):Prop:=SlT 67 (eN k) 7 w A n c l
theorem km.tch {k:Nat}{A:Option Addr}{n c:Nat}{l:List aq}(x:km k w A n c l) (h:Tch T w w') (hT:T 67=false):km k w' A n c l:=SlT.tch x h hT fun _ _ _ hs p=>p.tch hs h
end
/-! A thing's cells. -/
def MkC (k:Nat) (w:World) (cs:List Value) (m:aq):Prop:=∃ b A n c D m1 e b' A' n' c' D' m' e',cs=[ae m.name,.bool b,.slice A n c,.slice D m1 e,.bool b',.slice A' n' c',.slice D' m' e']∧QD w b A n c D m1 e m.x k∧QD w b' A' n' c' D' m' e' m.y k∧NmL m.name
def BdC (k:Nat) (w:World) (cs:List Value) (b:al):Prop:=∃ A n c,cs=[ae b.name,.slice A n c]∧km k w A n c b.pts∧NmL b.name
def JtC (_:World) (cs:List Value) (j:aN):Prop:=cs=[ae j.name,.int .i64 j.kind,.int .i64 j.a,.int .i64 j.point,.int .i64 j.b,.int .i64 j.on,.int .i64 j.to_]∧NmL j.name
def DrC (_:World) (cs:List Value) (d:bc):Prop:=cs=[ae d.name,.int .i64 d.body]∧NmL d.name
section
variable {T:TypeId→Bool}{w w':World}{k:Nat}{cs:List Value}
theorem MkC.tch {m:aq}(x:MkC k w cs m) (h:Tch T w w'):MkC k w' cs m:=by
 obtain ⟨b,A,n,c,D,m1,e,b',A',n',c',D',m',e',h0,h1,h2,h3⟩:=x;exact ⟨b,A,n,c,D,m1,e,b',A',n',c',D',m',e',h0,h1.tch h,h2.tch h,h3⟩
theorem BdC.tch {b:al}(x:BdC k w cs b) (h:Tch T w w') (hT:T 67=false):BdC k w' cs b:=by
 obtain ⟨A,n,c,h0,h1,h2⟩:=x;exact ⟨A,n,c,h0,h1.tch h hT,h2⟩
theorem MkC.at_ {m:aq}{g o:Nat}(x:MkC k w cs m) (hc:∀ j u,cs[j]?=some u→w.cell? ⟨g,o+j,none⟩=some u):eN k w g o m:=by
 obtain ⟨b,A,n,c,D,m1,e,b',A',n',c',D',m',e',rfl,h1,h2,h3⟩:=x;exact ⟨hc 0 _ rfl,⟨b,A,n,c,D,m1,e,hc 1 _ rfl,hc 2 _ rfl,hc 3 _ rfl,h1⟩,⟨b',A',n',c',D',m',e',hc 4 _ rfl,hc 5 _ rfl,hc 6 _ rfl,h2⟩,h3⟩
theorem BdC.at_ {b:al}{g o:Nat}(x:BdC k w cs b) (hc:∀ j u,cs[j]?=some u→w.cell? ⟨g,o+j,none⟩=some u):fD k w g o b:=by
 obtain ⟨A,n,c,rfl,h1,h2⟩:=x;exact ⟨A,n,c,hc 0 _ rfl,hc 1 _ rfl,h1.sl fun _ _ _ p=>p,h2⟩
theorem JtC.at_ {j:aN}{g o:Nat}(x:JtC w cs j) (hc:∀ i u,cs[i]?=some u→w.cell? ⟨g,o+i,none⟩=some u):kG w g o j:=by
 obtain ⟨rfl,h2⟩:=x;exact ⟨hc 0 _ rfl,hc 1 _ rfl,hc 2 _ rfl,hc 3 _ rfl,hc 4 _ rfl,hc 5 _ rfl,hc 6 _ rfl,h2⟩
theorem DrC.at_ {d:bc}{g o:Nat}(x:DrC w cs d) (hc:∀ i u,cs[i]?=some u→w.cell? ⟨g,o+i,none⟩=some u):kH w g o d:=by
 obtain ⟨rfl,h2⟩:=x;exact ⟨hc 0 _ rfl,hc 1 _ rfl,h2⟩
end
def iU {α:Type}(Pc:World→List Value→α→Prop) (s:Nat) (w:World) (l:List α) (xs:List Value):Prop :=
  ∃ css:List (List Value),xs=css.flatten∧css.length=l.length∧(∀ cs∈css,cs.length=s)∧∀ (i:Nat) a cs,l[i]?=some a→css[i]?=some cs→Pc w cs a
theorem sj {s:Nat}:∀ {css:List (List Value)}{i:Nat}{cs:List Value},(∀ x∈css,x.length=s)→css[i]?=some cs→∀ j,j < s→css.flatten[i * s+j]?=cs[j]?
 | [],i,cs,_,h,_,_=>by simp at h
 | x :: css,0,cs,hl,h,j,hj=>by
  simp only [List.getElem?_cons_zero,Option.some.injEq] at h;subst h;have:=hl x (by simp);rw [List.flatten_cons,Nat.zero_mul,Nat.zero_add,List.getElem?_append_left (by omega)]
 | x :: css,i+1,cs,hl,h,j,hj=>by
  have hx:=hl x (by simp);rw [List.flatten_cons,List.getElem?_append_right (by rw [hx,Nat.add_mul];omega),hx,show (i+1) * s+j - s=i * s+j by rw [Nat.add_mul];omega];exact sj (fun y hy=>hl y (by simp [hy])) (by simpa using h) j hj
section
variable {α:Type}{Pc:World→List Value→α→Prop}{s:Nat}{w w':World}{l:List α}{xs:List Value}
theorem iU.nil:iU Pc s w ([]:List α) []:=by
 refine ⟨[],rfl,rfl,?_,?_⟩
 ·intro cs h;cases h
 intro i a cs h;simp at h
theorem iU.snoc {a:α}{cs:List Value}(h:iU Pc s w l xs) (ha:Pc w cs a) (hs:cs.length=s):iU Pc s w (l ++ [a]) (xs ++ cs):=by
 obtain ⟨css,e,hl,hall,hp⟩:=h;refine ⟨css ++ [cs],by simp [e],by simp [hl],fun x hx=>?_,fun i b ds hb hd=>?_⟩
 ·rcases List.mem_append.1 hx with hx | hx
  ·exact hall x hx
  simp at hx;subst hx;exact hs
 rcases Nat.lt_or_ge i l.length with hi | hi
 ·rw [List.getElem?_append_left hi] at hb
  rw [List.getElem?_append_left (by omega)] at hd;exact hp i b ds hb hd
 rw [List.getElem?_append_right hi] at hb;rw [List.getElem?_append_right (by omega),hl] at hd;rcases Nat.eq_zero_or_pos (i - l.length) with h0 | h0
 ·rw [h0] at hb hd
  simp at hb hd;subst hb hd;exact ha
 rw [List.getElem?_eq_none (by simp;omega)] at hb;cases hb
theorem iU.map_ {w':World}(h:iU Pc s w l xs) (hP:∀ cs a,Pc w cs a→Pc w' cs a):iU Pc s w' l xs:=by
 obtain ⟨css,e,hl,hall,hp⟩:=h;exact ⟨css,e,hl,hall,fun i a cs h1 h2=>hP _ _ (hp i a cs h1 h2)⟩
end
def bi {α:Type}(T0:TypeId) (Pc:World→List Value→α→Prop) (s:Nat) (w:World) (base:Nat) (v:Value) (n:Nat) (l:List α):Prop:=l.length=n∧∃ xs,OwJ noW w base T0 s v n xs∧iU Pc s w l xs
section
variable {α:Type}{T0:TypeId}{Pc:World→List Value→α→Prop}{s:Nat}{w w':World}{base:Nat}{v:Value}{n:Nat}{l:List α}
theorem bi.nil:bi T0 Pc s w base (.slice none 0 0) 0 ([]:List α):=⟨rfl,[],OwJ.nil _ _ _ _ _,iU.nil⟩
theorem bi.form (h:bi T0 Pc s w base v n l):∃ A c,v=.slice A n c∧n≤c:=by
 obtain ⟨_,xs,h1,_⟩:=h;rcases h1.2 with ⟨rfl,rfl⟩ | ⟨g,cap,cur,rfl,_,_,h4,_⟩
 ·exact ⟨none,0,rfl,Qr⟩
 exact ⟨_,cap,rfl,h4⟩
theorem bi.slT {P:World→Nat→Nat→α→Prop}{A:Option Addr}{c:Nat}(h:bi T0 Pc s w base (.slice A n c) n l) (hP:∀ g o cs a,Pc w cs a→(∀ j u,cs[j]?=some u→w.cell? ⟨g,o+j,none⟩=some u)→P w g o a):SlT T0 P s w A n c l:=by
 obtain ⟨hl,xs,h1,css,e,hcl,hall,hp⟩:=h;rcases h1.2 with ⟨h2,rfl⟩ | ⟨g,cap,cur,h2,_,h3,h4,_,h6,h7,_⟩
 ·injection h2 with a1 _ a3
  subst a1 a3;exact ⟨hl,Qr,fun h=>absurd h (by omega)⟩
 injection h2 with a1 _ a3;subst a1 a3;refine ⟨hl,h4,fun _=>⟨g,0,cur,_,rfl,h3,fun i a ha=>?_⟩⟩;have hi:i < n:=by rw [← hl];exact (List.getElem?_eq_some_iff.1 ha).1
 have hcs:css[i]?=some css[i]:=List.getElem?_eq_getElem (by omega);refine hP _ _ _ _ (hp i a _ ha hcs) fun j u hu=>?_
 have hj:j < s:=by rw [← hall css[i] (List.getElem_mem _)];exact (List.getElem?_eq_some_iff.1 hu).1
 have h9:=sj hall hcs j hj;rw [hu,← e,← h7,List.getElem?_take] at h9;split at h9
 ·unfold World.cell?
  rw [h3];simpa using h9
 cases h9
theorem bi.same (h:bi T0 Pc s w base v n l) (hb:∀ g cur,base≤g→w.heap[g]?=some (.cells cur T0 (0,0))→w'.heap[g]?=some (.cells cur T0 (0,0))) (hP:∀ cs a,Pc w cs a→Pc w' cs a):bi T0 Pc s w' base v n l:=by
 obtain ⟨hl,xs,h1,h2⟩:=h;refine ⟨hl,xs,⟨h1.1,?_⟩,h2.map_ hP⟩;rcases h1.2 with h3 | ⟨g,cap,cur,h3,h4,h5,h6⟩
 ·exact .inl h3
 exact .inr ⟨g,cap,cur,h3,h4,hb g cur h4 h5,h6⟩
theorem bi.tch {T:TypeId→Bool}(h:bi T0 Pc s w base v n l) (ht:Tch T w w') (hT:T T0=false) (hP:∀ cs a,Pc w cs a→Pc w' cs a):bi T0 Pc s w' base v n l:=h.same (fun g cur _ hg=>ht.2 g cur T0 _ hg (.inl hT)) hP
end
def lU (l:List (List UInt8)):List Value:=l.map ae
theorem xV (w:World) (s:List UInt8):Calls Tryz.prog 227 #[ae s,.string ⟨#[48]⟩] w (av w (ae (s.dropWhile (· == 48)))):=by
 refine (Tryz.strings_TrimLeft_one ⟨s.toArray⟩ 48 (by decide) w).mono fun e w' ⟨he,hw⟩=>⟨?_,hw ▸ aa _⟩
 rw [he];congr 2
theorem zL (w:World) (s:List UInt8) (m:Bool) (b:List UInt8) (hm:cG s=m) (hb:bR s=b):Calls Tryz.prog 88 #[ae s,.string ⟨#[45]⟩] w (av w (.tuple #[ae b,.bool m])):=by
 refine (Tryz.strings_CutPrefix ⟨s.toArray⟩ ⟨#[45]⟩ w).mono fun e w' ⟨he,hw⟩=>⟨?_,hw ▸ aa _⟩
 rw [he];have e1:Lib.hasPrefix s [45]=m:=(gN s).trans hm;have e2:Lib.trimPrefix s [45]=b:=(jE s).trans hb;show Ending.returned (.tuple #[.string ⟨(Lib.trimPrefix s [45]).toArray⟩,.bool (Lib.hasPrefix s [45])])=_;rw [e1,e2]
theorem AR (w:World) (n:Nat) (hn:n≤1000) (Z:List UInt8) (hZ:List.replicate n 48=Z):Calls Tryz.prog 65 #[.string ⟨#[48]⟩,.int .i64 (n:Nat)] w (av w (ae Z)):=by
 refine (Tryz.strings_Repeat ⟨#[48]⟩ n w (by omega) (by show 1 * n≤_;omega)).mono fun e w' ⟨he,hb⟩=>⟨?_,hb⟩
 subst hZ;rw [he]
 have e9:∀ k,Lib.repeatL [48] k=List.replicate k 48:=fun k=>by
  induction k with
  | zero=>rfl
  | succ k ih=>rw [Lib.repeatL,ih,List.replicate_succ];rfl
 exact congrArg (fun x:List UInt8=>Ending.returned (ae x)) (e9 n)
theorem sk (w:World) (T:List UInt8) (z:Int) (ho:okZ T=true) (hz:fc T=z) (hl:T.length≤130):Calls Tryz.prog 188 #[ae T] w (jF w .nilIface z 130):=by
 subst hz;exact (qH w T (by omega) ho).mono fun e w' ⟨b,A,n,c,h1,h2,h3⟩=>⟨b,A,n,c,h1,h2.mono hl,h3⟩
theorem sm (w:World) (s t:List UInt8) (ht:dl s=t):Calls Tryz.prog 189 #[ae s] w (av w (ae t)):=by
 obtain ⟨u,hu⟩:∃ u,s.dropWhile (· == 48)=u:=⟨_,rfl⟩;unfold dl at ht;rw [hu] at ht;have HT:=xV w s;rw [hu] at HT;have HT:=Qh HT;by_cases h0:u=[]
 ·subst h0
  obtain rfl:[48]=t:=ht;clear hu;go_in;go_wp2_with fail;(with_reducible refine HT.out.mono ?_);rintro e w1 ⟨rfl,hb1⟩;go_wp2;go_ret;exact ⟨rfl,hb1⟩
 obtain rfl:u=t:=by rw [if_neg h0] at ht;exact ht
 obtain ⟨y,ys,hyy⟩:=List.exists_cons_of_ne_nil h0;have hBe:((⟨u.toArray⟩:ByteArray) == ⟨#[]⟩)=false:=by rw [hyy];rfl
 have hBl:(u == [])=false:=by rw [hyy];rfl
 have hBn:(u=[])=False:=eq_false h0;clear hu hyy h0;go_in;go_wp2_with fail;(with_reducible refine HT.out.mono ?_);rintro e w1 ⟨rfl,hb1⟩;go_wp2;go_ret;exact ⟨rfl,hb1⟩
theorem mC (w:World) (s:List UInt8) (h:60 < s.length):Calls Tryz.prog 150 #[ae s] w (dZ w (.iface 49 (.int .i64 4)) 0 1):=by
 have hszs:=bX s;have hlen:((60:Int) < (s.length:Int))=True:=eq_true (by omega);go_in;go_wp2_with fail;refine bodyPost_ret (v:=.tuple #[.agg #[.bool false,.slice none 0 0,.slice none 0 0],.iface 49 (.int .i64 4)]) (by simp [results,Tryz.results150,go_sem, *] <;> trivial) rfl ?_;exact ⟨_,_,_,_,_,_,_,rfl,QV.zero _ _,((aa w).alloc (by first | omega | (simp <;> omega)) (.cells #[.bool false,.slice none 0 0,.slice none 0 0] 65))⟩
theorem p8 (w:World) (s:List UInt8) (h:s.length≤60) (hb:s.length=0∨bC s≠s.length):Calls Tryz.prog 150 #[ae s] w (dZ w (.iface 49 (.int .i64 2)) 0 1):=by
 have hszs:=bX s;have hlen:((60:Int) < (s.length:Int))=False:=eq_false (by omega);obtain ⟨n,hn⟩:∃ n,bC s=n:=⟨_,rfl⟩;have hnl:n≤s.length:=by rw [← hn];exact oo s
 rw [hn] at hb;by_cases h0:n=0
 ·subst h0
  clear hb;go_in;go_wp2_with fail;(with_reducible refine (cW _ (s) (by omega) 0 hn).mono ?_);rintro e w1 ⟨rfl,hb1⟩;have q1:=hb1.q1;have x1a:Blk w1 w.heap.size 65 #[.bool false,.slice none 0 0,.slice none 0 0]:=(ah _ _ _ (by simp)).below hb1 (by simp);have bw1:=(aa w).trans (q1.mono (aa w).size);have lw1:=hb1.l1;clear q1;obtain ⟨cx1aa,cx1ab,cx1ac⟩:=x1a.c3;obtain ⟨fx1aa,fx1ab,fx1ac⟩:=x1a.f3;obtain ⟨lx1aa,lx1ab,lx1ac,lx1ad⟩:=fM x1a.lt;go_wp2_with fail;refine bodyPost_ret (v:=.tuple #[.agg #[.bool false,.slice none 0 0,.slice none 0 0],.iface 49 (.int .i64 2)]) (by simp [results,Tryz.results150,go_sem, *] <;> trivial) rfl ?_;exact ⟨_,_,_,_,_,_,_,rfl,QV.zero _ _,(((bw1.sc w.heap.size 0 (by omega) (.bool false)).sc w.heap.size 1 (by omega) (.slice none 0 0)).sc w.heap.size 2 (by omega) (.slice none 0 0))⟩
 have e0:((n:Int) == 0)=false:=by simp;omega
 have e00:((n:Int)=0)=False:=eq_false (by omega);have e1:((n:Int) == (s.length:Int))=false:=by simp;omega
 clear hb h0;go_in;go_wp2_with fail;(with_reducible refine (cW _ (s) (by omega) n hn).mono ?_);rintro e w1 ⟨rfl,hb1⟩;have q1:=hb1.q1;have x1a:Blk w1 w.heap.size 65 #[.bool false,.slice none 0 0,.slice none 0 0]:=(ah _ _ _ (by simp)).below hb1 (by simp);have bw1:=(aa w).trans (q1.mono (aa w).size);have lw1:=hb1.l1;clear q1;obtain ⟨cx1aa,cx1ab,cx1ac⟩:=x1a.c3;obtain ⟨fx1aa,fx1ab,fx1ac⟩:=x1a.f3;obtain ⟨lx1aa,lx1ab,lx1ac,lx1ad⟩:=fM x1a.lt;go_wp2_with fail;refine bodyPost_ret (v:=.tuple #[.agg #[.bool false,.slice none 0 0,.slice none 0 0],.iface 49 (.int .i64 2)]) (by simp [results,Tryz.results150,go_sem, *] <;> trivial) rfl ?_;exact ⟨_,_,_,_,_,_,_,rfl,QV.zero _ _,(((bw1.sc w.heap.size 0 (by omega) (.bool false)).sc w.heap.size 1 (by omega) (.slice none 0 0)).sc w.heap.size 2 (by omega) (.slice none 0 0))⟩
theorem vW:cD 8=.iface 49 (.int .i64 8):=if_neg (by decide)
inductive nF (z d x:Int) (q:Rat):Prop
  | zero (hd:d=0) (hx:x=8) (hq:q=0)
  | ok (hd:d≠0) (hx:x=0) (hq:Rat.divInt z d=q) (hs:Sz q 130)
def lV (T:List UInt8) (z:Int):Prop:=okZ T=true∧fc T=z∧T.length≤130
theorem iC (w:World) (s:List UInt8) (m:Bool) (B NT DT TN TD:List UInt8) (zn zd x:Int) (q:Rat) (hmx:Mx w) (h:s.length≤60) (hp:0 < s.length) (hn:bC s=s.length) (hh:cG s=m∧bR s=B) (hB:B.length≤60) (a1 b1 a2 b2 N1 D1:List UInt8) (f1 f2:Bool) (hc1:Lib.cut B [47]=(a1,b1,f1)) (hc2:Lib.cut B [46]=(a2,b2,f2)) (hl2:a2.length+b2.length≤60) (hs1:(if f1 then (a1,b1) else (B,[49]))=(N1,D1)) (hs2:(if f2 then (a2 ++ b2,49 :: List.replicate b2.length 48) else (N1,D1))=(NT,DT)) (h1:dl NT=TN) (h2:lV TN zn) (h3:dl DT=TD) (h4:lV TD zd) (hq:nF (if m then -zn else zn) zd x q) :
 Calls Tryz.prog 150 #[ae s] w (dZ w (cD x) q 130):=by
 have hszs:=bX s;have hlen:((60:Int) < (s.length:Int))=False:=eq_false (by omega);have hn0:((s.length:Int) == 0)=false:=beq_eq_false_iff_ne.2 (by omega);have hn00:((s.length:Int)=0)=False:=eq_false (by omega);have hsl:s.length < 4611686018427387904:=by omega
 have HH:=Qh hh;have HC1:=Qh hc1;have HC2:=Qh hc2;have HS1:=Qh hs1;have HS2:=Qh hs2;have H1:=Qh h1;have H2:=Qh h2;have H3:=Qh h3;have H4:=Qh h4;have HQ:=Qh hq;have HM:=Qh hmx;have HN:=Qh hn;clear hh hc1 hc2 hs1 hs2 h1 h2 h3 h4 hq hmx hn;go_in;go_wp2_with fail;(refine (cW _ s hsl s.length HN.out).mono ?_);rintro e w1 ⟨rfl,hb1⟩;have q1:Below w.heap.size w w1:=((aa w).alloc Qr _).trans (hb1.mono (by simp));have x1:Blk w1 w.heap.size 65 #[.bool false,.slice none 0 0,.slice none 0 0]:=(ah _ _ _ (by simp)).below hb1 (by simp);clear hb1;go_wp2_with fail;(refine (zL _ s m B HH.out.1 HH.out.2).mono ?_);rintro e w2 ⟨rfl,hb2⟩;replace x1:=x1.b hb2;replace q1:=q1.trans (hb2.mono q1.size);clear hb2;go_wp2_with fail;(refine (yI _ B 47 a1 b1 f1 (HM.out.belw q1) (by omega) HC1.out).mono ?_);rintro e w3 ⟨rfl,hb3⟩;replace x1:=x1.b hb3;replace q1:=q1.trans (hb3.mono q1.size);clear hb3;go_upto_if 47 with fail;go_cut [7,8] (fun s7 s8 wx=>s7=ae D1∧s8=ae N1∧w3=wx)
 case first =>
  cases f1
  ·have e:=HS1.out
   simp only [Bool.false_eq_true,if_false,Prod.mk.injEq] at e;obtain ⟨rfl,rfl⟩:=e;go_wp2_with fail;go_meet;exact ⟨rfl,rfl,rfl⟩
  have e:=HS1.out;simp only [if_true,Prod.mk.injEq] at e;obtain ⟨rfl,rfl⟩:=e;go_wp2_with fail;go_meet;exact ⟨rfl,rfl,rfl⟩
 case rest =>
  obtain ⟨rfl,rfl,rfl⟩:=hcut;clear HS1 HC1;go_wp2_with fail;(refine (yI _ B 46 a2 b2 f2 (HM.out.belw q1) (by omega) HC2.out).mono ?_);rintro e w4 ⟨rfl,hb4⟩;replace x1:=x1.b hb4;replace q1:=q1.trans (hb4.mono q1.size);clear hb4;go_upto_if 56 with fail;go_cut [7,8] (fun s7 s8 wx=>s7=ae DT∧s8=ae NT∧Blk wx w.heap.size 65 #[.bool false,.slice none 0 0,.slice none 0 0]∧Below w.heap.size w wx)
  case first =>
   cases f2
   ·have e:=HS2.out
    simp only [Bool.false_eq_true,if_false,Prod.mk.injEq] at e;obtain ⟨rfl,rfl⟩:=e;go_wp2_with fail;go_meet;exact ⟨rfl,rfl,x1,q1⟩
   have e:=HS2.out;simp only [if_true,Prod.mk.injEq] at e;obtain ⟨rfl,rfl⟩:=e;obtain ⟨Z,hZ⟩:∃ Z:List UInt8,List.replicate b2.length 48=Z:=⟨_,rfl⟩;have hZl:Z.length=b2.length:=by rw [← hZ];simp
   have HZ:=Qh hZ;have ha1:=vK a2 b2;have ha2:=vK [49] Z;have hk1:(9223372036854775807 < a2.length+b2.length)=False:=eq_false (by omega);have hk2:(9223372036854775807 < 1+Z.length)=False:=eq_false (by omega);clear hZ hZl;go_wp2_with fail;(refine (AR _ b2.length (by omega) Z HZ.out).mono ?_);rintro e w5 ⟨rfl,hb5⟩;go_wp2_with fail;go_meet;exact ⟨by rw [HZ.out],rfl,x1.below hb5 x1.lt,q1.trans (hb5.mono q1.size)⟩
  case rest =>
   clear x1 q1 HS2 HC2;obtain ⟨rfl,rfl,x1,q1⟩:=hcut;rename World=>w6;go_wp2_with fail;(refine (sm _ NT TN H1.out).mono ?_);rintro e w7 ⟨rfl,hb7⟩;replace x1:=x1.b hb7;replace q1:=q1.trans (hb7.mono q1.size);clear hb7;go_wp2_with fail;(refine (sk _ TN zn H2.out.1 H2.out.2.1 H2.out.2.2).mono ?_);rintro e w8 ⟨b3,A3,n3,c3,rfl,h3,hb8⟩;replace x1:=x1.b hb8;replace q1:=q1.trans (hb8.mono q1.size);clear hb8;go_upto_region 16 with fail;refine ef ?_;intro w9 hw9;have q9:Below w8.heap.size w8 w9:=by rw [hw9];exact (aa w8).alloc Qr _
   have x9:Blk w9 w8.heap.size 194 #[.bool b3,.slice A3 n3 c3]:=by rw [hw9];exact Blk.new w8 _ _
   have l9:=x1.lt;replace x1:=x1.b q9;replace h3:=h3.belw q9;replace q1:=q1.trans (q9.mono q1.size);obtain ⟨g,hg⟩:∃ g,w8.heap.size=g:=⟨_,rfl⟩;rw [hg] at x9 l9 ⊢;clear hw9 q9 hg;go_wp2_with fail;(refine (sm _ DT TD H3.out).mono ?_);rintro e w10 ⟨rfl,hb10⟩;replace x1:=x1.b hb10;replace x9:=x9.b hb10;replace h3:=h3.belw hb10;replace q1:=q1.trans (hb10.mono q1.size);clear hb10;go_wp2_with fail;(refine (sk _ TD zd H4.out.1 H4.out.2.1 H4.out.2.2).mono ?_);rintro e w11 ⟨b4,A4,n4,c4,rfl,h4,hb11⟩;replace x1:=x1.b hb11;replace x9:=x9.b hb11;replace h3:=h3.belw hb11;replace q1:=q1.trans (hb11.mono q1.size);clear hb11;go_upto_region 19 with fail;refine ef ?_;intro w12 hw12;have q12:Below w11.heap.size w11 w12:=by rw [hw12];exact (aa w11).alloc Qr _
   have x12:Blk w12 w11.heap.size 194 #[.bool b4,.slice A4 n4 c4]:=by rw [hw12];exact Blk.new w11 _ _
   have l12:=x9.lt;replace x1:=x1.b q12;replace x9:=x9.b q12;replace h3:=h3.belw q12;replace h4:=h4.belw q12;replace q1:=q1.trans (q12.mono q1.size);obtain ⟨g2,hg2⟩:∃ g,w11.heap.size=g:=⟨_,rfl⟩;rw [hg2] at x12 l12 ⊢;clear hw12 q12 hg2;go_upto_if 84 with fail;obtain ⟨zs,hzs⟩:∃ z,(if m then -zn else zn)=z:=⟨_,rfl⟩;rw [hzs] at HQ;have HZS:=Qh hzs;clear hzs;go_cut [] (fun wx=>∃ b5 A5 n5 c5,Blk wx w.heap.size 65 #[.bool false,.slice none 0 0,.slice none 0 0]∧Blk wx g 194 #[.bool b5,.slice A5 n5 c5]∧Blk wx g2 194 #[.bool b4,.slice A4 n4 c4]∧IZ wx b5 A5 n5 c5 zs 130∧IZ wx b4 A4 n4 c4 zd 130∧Below w.heap.size w wx)
   case first =>
    cases m
    ·obtain rfl:zn=zs:=HZS.out
     go_wp2_with fail;go_meet;exact ⟨_,_,_,_,x1,x9,x12,h3.iz,h4.iz,q1⟩
    obtain rfl:-zn=zs:=HZS.out;have y:=x9.v2;go_wp2_with fail;(refine (rF _ b3 A3 n3 c3 zn 130 h3.iz (by decide)).mono ?_);rintro e w13 ⟨b5,A5,n5,c5,rfl,h5,hb13⟩;replace x1:=x1.b hb13;replace x9:=x9.b hb13;replace x12:=x12.b hb13;replace h4:=h4.belw hb13;replace q1:=q1.trans (hb13.mono q1.size);clear hb13 y;have y:=x9.v2;go_wp2_with fail;go_meet;have kp:=x9.k2 (by decide) (.bool b5) (.slice A5 n5 c5);exact ⟨_,_,_,_,(x1.far (p:=⟨g,0,none⟩) (by show w.heap.size≠g;omega) _).far (p:=⟨g,1,none⟩) (by show w.heap.size≠g;omega) _,(x9.set_ 0 _).set_ 1 _,(x12.far (p:=⟨g,0,none⟩) (by show g2≠g;omega) _).far (p:=⟨g,1,none⟩) (by show g2≠g;omega) _,h5.iz.keep kp,h4.iz.keep kp,(q1.setCell (p:=⟨g,0,none⟩) (by show w.heap.size≤g;omega) _).setCell (p:=⟨g,1,none⟩) (by show w.heap.size≤g;omega) _⟩
   case rest =>
    clear x1 x9 x12 h3 h4 q1;obtain ⟨b5,A5,n5,c5,x1,x9,x12,h5,h4,q1⟩:=hcut;rename World=>w14;have y:=And.intro x9.v2 x12.v2;go_wp2_with fail;rcases HQ.out with ⟨hd,rfl,rfl⟩ | ⟨hd,rfl,hq,hs⟩
    ·(refine (vG _ b5 A5 n5 c5 zs 130 h5 b4 A4 n4 c4 zd 130 h4 hd (by decide)).mono ?_);rintro e w15 ⟨b6,A6,n6,c6,D6,m6,e6,rfl,h6,hb15⟩
     replace x1:=x1.b hb15;replace q1:=q1.trans (hb15.mono q1.size);clear hb15 y;have y:=x1.v3;go_wp2_with fail;refine bodyPost_ret (v:=.tuple #[.agg #[.bool b6,.slice A6 n6 c6,.slice D6 m6 e6],cD 8]) (by simp [results,Tryz.results150,go_sem,vW, *] <;> trivial) rfl ?_;exact ⟨_,_,_,_,_,_,_,rfl,(h6.keep (x1.k3 (by decide) _ _ _)).mono (by decide),((q1.setCell (p:=⟨w.heap.size,0,none⟩) Qr _).setCell (p:=⟨w.heap.size,1,none⟩) Qr _).setCell (p:=⟨w.heap.size,2,none⟩) Qr _⟩
    (refine (zy _ b5 A5 n5 c5 zs 130 h5 b4 A4 n4 c4 zd 130 h4 q 130 hd hq hs (by decide)).mono ?_);rintro e w15 ⟨b6,A6,n6,c6,D6,m6,e6,rfl,h6,hb15⟩;replace x1:=x1.b hb15;replace q1:=q1.trans (hb15.mono q1.size);clear hb15 y;have y:=x1.v3;go_wp2_with fail;refine bodyPost_ret (v:=.tuple #[.agg #[.bool b6,.slice A6 n6 c6,.slice D6 m6 e6],cD 0]) (by simp [results,Tryz.results150,go_sem,dE, *] <;> trivial) rfl ?_;exact ⟨_,_,_,_,_,_,_,rfl,h6.keep (x1.k3 (by decide) _ _ _),((q1.setCell (p:=⟨w.heap.size,0,none⟩) Qr _).setCell (p:=⟨w.heap.size,1,none⟩) Qr _).setCell (p:=⟨w.heap.size,2,none⟩) Qr _⟩
theorem lV.dg {D:List UInt8}(h:D.all aK=true) (hl:D.length≤120):lV (dl D) ((aj D:Nat):Int):=by
 obtain ⟨h1,h2,h3⟩:=vQ h;exact ⟨h1,h2,by omega⟩
theorem nF.val {m:Bool}{zn zd:Nat}(hn:zn < 4294967296 ^ 60) (hd:zd < 4294967296 ^ 60) (h0:zd≠0):nF (if m then -(zn:Int) else zn) zd 0 (Rat.divInt (sgI m zn) zd):=by
 have e:(if m then -(zn:Int) else (zn:Int))=sgI m zn:=by cases m <;> rfl
 rw [e];exact .ok (by omega) rfl rfl (ia (by rw [xT];exact Nat.lt_trans hn (Nat.pow_lt_pow_right (by decide) (by decide))) (by rw [Int.natAbs_natCast];exact Nat.lt_trans hd (Nat.pow_lt_pow_right (by decide) (by decide))) (by decide))
theorem qY {D E:List UInt8}(hD:isD D) (hE:isD E) {c d:UInt8}(hc:aK c=false) (hd:c≠d):c ∉ D ++ d :: E:=by
 intro hm;rcases List.mem_append.1 hm with e | e
 ·exact gf hD hc e
 rcases List.mem_cons.1 e with e | e
 ·exact absurd e hd
 exact gf hE hc e
theorem tM (w:World) (s:List UInt8) (x:Int) (q:Rat) (hmx:Mx w) (h:lQ s x q) (hx:¬ 60 < s.length) (hb:¬ (s.length=0∨bC s≠s.length)):Calls Tryz.prog 150 #[ae s] w (dZ w (cD x) q 130):=by
 have d1:(10:Nat) ^ 60 < 4294967296 ^ 60:=by decide
 rcases h with ⟨h,_,_⟩ | ⟨_,h,_,_⟩ | ⟨m,D,h,hn,hD,hs,rfl,rfl⟩ | ⟨m,D,E,h,hn,hD,hE,hs,h0,rfl,rfl⟩ | ⟨m,D,E,h,hn,hD,hE,hs,h0,rfl,rfl⟩ | ⟨m,D,E,h,hn,hD,hE,hs,rfl,rfl⟩
 ·exact absurd h hx
 ·exact absurd h hb
 ·have hh:=fU (m:=m) (r:=[]) hD
  rw [List.append_nil,← hs] at hh;have hl:D.length≤s.length:=by rw [hs];cases m <;> simp [sg]
  have hv:=nF.val (m:=m) (jP hD.2 (by omega)) (show 1 < 4294967296 ^ 60 by decide) (by decide);rw [show ((1:Nat):Int)=1 from rfl,uI] at hv;exact iC w s m D D [49] _ _ _ 1 0 _ hmx h (by omega) hn hh (by omega) D [] D [] D [49] false false (lH (gf hD (by decide))) (lH (gf hD (by decide))) (by simp;omega) rfl rfl rfl (lV.dg hD.2 (by omega)) rfl ⟨by decide,by decide,by decide⟩ hv
 ·have hh:=fU (m:=m) (r:=47 :: E) hD
  rw [← hs] at hh;have hl:(D ++ 47 :: E).length≤s.length:=by rw [hs];cases m <;> simp [sg]
  have hl2:(D ++ 47 :: E).length=D.length+(E.length+1):=by simp
  exact iC w s m (D ++ 47 :: E) D E _ _ _ _ 8 0 hmx h (by omega) hn hh (by omega) D E (D ++ 47 :: E) [] D E true false (qQ (gf hD (by decide))) (lH (qY hD hE (by decide) (by decide))) (by show (D ++ 47 :: E).length+0≤60;omega) rfl rfl rfl (lV.dg hD.2 (by omega)) rfl (lV.dg hE.2 (by omega)) (.zero (by rw [h0];rfl) rfl rfl)
 ·have hh:=fU (m:=m) (r:=47 :: E) hD
  rw [← hs] at hh;have hl:(D ++ 47 :: E).length≤s.length:=by rw [hs];cases m <;> simp [sg]
  have hl2:(D ++ 47 :: E).length=D.length+(E.length+1):=by simp
  exact iC w s m (D ++ 47 :: E) D E _ _ _ _ 0 _ hmx h (by omega) hn hh (by omega) D E (D ++ 47 :: E) [] D E true false (qQ (gf hD (by decide))) (lH (qY hD hE (by decide) (by decide))) (by show (D ++ 47 :: E).length+0≤60;omega) rfl rfl rfl (lV.dg hD.2 (by omega)) rfl (lV.dg hE.2 (by omega)) (nF.val (jP hD.2 (by omega)) (jP hE.2 (by omega)) h0)
 have hh:=fU (m:=m) (r:=46 :: E) hD;rw [← hs] at hh;have hl:(D ++ 46 :: E).length≤s.length:=by rw [hs];cases m <;> simp [sg]
 have hl2:(D ++ 46 :: E).length=D.length+(E.length+1):=by simp
 have hN:(D ++ E).all aK=true:=by rw [List.all_append,hD.2,hE.2];rfl
 have hNl:(D ++ E).length=D.length+E.length:=List.length_append;obtain ⟨t1,t2,t3⟩:=pX E.length;have hT:=lV.dg t3 (by simp;omega);rw [t2] at hT;have hz:(10:Nat) ^ E.length < 4294967296 ^ 60:=Nat.lt_of_le_of_lt (Nat.pow_le_pow_right (by decide) (by omega)) d1;exact iC w s m (D ++ 46 :: E) (D ++ E) (49 :: List.replicate E.length 48) _ _ _ _ 0 _ hmx h (by omega) hn hh (by omega) (D ++ 46 :: E) [] D E (D ++ 46 :: E) [49] false true (lH (qY hD hE (by decide) (by decide))) (qQ (gf hD (by decide))) (by omega) rfl rfl rfl (lV.dg hN (by omega)) rfl hT (nF.val (jP hN (by omega)) hz (by have:=Nat.pow_pos (n:=E.length) (show 0 < 10 by decide);omega))
theorem zM {m:Bool}{B:List UInt8}(h:B≠[]):(sg m B).length≠0:=by
 have:=List.length_pos_iff.2 h;cases m <;> simp [sg];exact h
theorem tN (w:World) (s:List UInt8) (x:Int) (q:Rat) (hmx:Mx w) (h:lQ s x q):Calls Tryz.prog 150 #[ae s] w (dZ w (cD x) q 130):=by
 have hm:∀ {v:Value}{e:Ending}{w':World},dZ w v q 1 e w'→dZ w v q 130 e w':=fun h=>by
  obtain ⟨b,A,n,c,A',n',c',h1,h2,h3⟩:=h;exact ⟨b,A,n,c,A',n',c',h1,h2.mono (by decide),h3⟩
 by_cases h1:60 < s.length
 ·rcases h with ⟨_,rfl,rfl⟩ | ⟨h,_⟩ | ⟨_,_,h,_⟩ | ⟨_,_,_,h,_⟩ | ⟨_,_,_,h,_⟩ | ⟨_,_,_,h,_⟩ <;> first | (rw [zJ];exact (mC w s h1).mono fun _ _ r=>hm r) | omega
 by_cases h2:s.length=0∨bC s≠s.length
 ·rcases h with ⟨h,_⟩ | ⟨_,_,rfl,rfl⟩ | ⟨_,D,_,hn,hD,hs,_⟩ | ⟨_,D,_,_,hn,hD,_,hs,_⟩ | ⟨_,D,_,_,hn,hD,_,hs,_⟩ | ⟨_,D,_,_,hn,hD,_,hs,_⟩
  ·exact absurd h h1
  ·rw [zI];exact (p8 w s (by omega) h2).mono fun _ _ r=>hm r
  all_goals
   exfalso;rcases h2 with h2 | h2
   ·rw [hs] at h2
    exact zM (by first | exact hD.1 | simp) h2
   exact h2 hn
 exact tM w s x q hmx h h1 h2
theorem nG (w:World) (s:List UInt8) (x:Int) (l:List Tkn) (h:aR s x l):Calls Tryz.prog 36 #[ae s] w (qS w (cD x) l) :=
 (xO w s).mono fun _ _ ⟨x',l',h',r⟩=>by
  obtain ⟨rfl,rfl⟩:=h.uniq h';exact r
theorem tP (w:World) (s:List UInt8) (x:Int) (l:List Tkn) (h:aR s x l):Calls Tryz.prog 43 #[ae s] w (qS w (.int .i64 x) l) :=
 (xP w s).mono fun _ _ ⟨x',l',h',r⟩=>by
  obtain ⟨rfl,rfl⟩:=h.uniq h';exact r
theorem xW (w:World) (A:Option Addr) (n c:Nat) (B:Option Addr) (p d:Nat) (C:Option Addr) (q e:Nat) (nm:List UInt8) (j:aN) (L:ao) (k:Nat) (h:SlS (fD k) 2 w A n c L.bodies) (hk:k≤10000000) (hk1:0 < k) (hn:n≤1000) (x:Int) (hx:bh L j=x) :
 Calls Tryz.prog 113 #[.agg #[ae nm,.slice A n c,.slice B p d,.slice C q e],.agg #[ae j.name,.int .i64 j.kind,.int .i64 j.a,.int .i64 j.point,.int .i64 j.b,.int .i64 j.on,.int .i64 j.to_]] w (av w (cD x)):=by
 by_cases h0:j.kind=0
 ·exact tK w A n c B p d C q e nm j L k h hk hk1 hn h0 x hx
 by_cases h1:j.kind=1
 ·exact tL w A n c B p d C q e nm j L k h hk hk1 hn h1 x hx
 subst hx;rw [show bh L j=7 from if_pos ⟨h0,h1⟩];exact tJ w A n c B p d C q e nm j ⟨h0,h1⟩
theorem vX (w:World) (A:Option Addr) (n c:Nat) (B:Option Addr) (p d:Nat) (C:Option Addr) (q e:Nat) (L:ao) (k:Nat) (h:LkS k w A n c B p d C q e L) (hk:k≤10000000) (hk1:0 < k) (hn:n≤1000) (x:Int) (hx:(if 16 < L.joints.length then 4 else bq (aQ L) [] L.joints)=x):Calls Tryz.prog 77 #[.agg #[ae L.name,.slice A n c,.slice B p d,.slice C q e]] w (av w (cD x)):=by
 have hln:=h.joints.1;have hlb:=h.bodies.1;by_cases h8:16 < p
 ·have f8:((16:Int) < (p:Int))=True:=eq_true (by omega)
  have h4:x=4:=by rw [← hx,if_pos (by rw [hln];exact h8)]
  clear hln hlb;go_in;go_wp2;go_ret;exact ⟨by rw [h4];rfl,(aa w).alloc Qr _⟩
 have f8:((16:Int) < (p:Int))=False:=eq_false (by omega);have hbd:p≤16:=by omega
 rw [if_neg (by rw [hln];exact h8)] at hx;have hnc:=h.joints.2.1;have HX:=Qh (cX hx);have HLN:=Qh hln;have HLB:=Qh hlb;clear hx hln hlb h8;go_in;go_wp2_with fail;go_loopw [16] (fun iv wr=>∃ i:Nat,iv=.int .i64 (i:Nat)∧i≤p∧Hid (bq (aQ L) (L.joints.take i) (L.joints.drop i)=x)∧Blk wr w.heap.size 36 #[ae L.name,.slice A n c,.slice B p d,.slice C q e]∧Below w.heap.size w wr) (fun iv _=>p - (intOf iv).toNat)
 case atStart=>exact ⟨0,rfl,Nat.zero_le _,HX,ah _ _ _ (by simp),(aa w).alloc Qr _⟩
 case round =>
  clear HX;obtain ⟨i,rfl,hi,HX,xL,hb⟩:=hrel;rename World=>wa;rcases Nat.lt_or_ge i p with hlt | hge
  ·have hi1:((i:Int) < (p:Int))=True:=by simp;omega
   have hL:=h.belw hb;obtain ⟨g,o,b,e1,hg,_,hbi,hB⟩:=hL.joints.at_ hlt;subst e1;have hstep:=du HX.out hbi;obtain ⟨c0,c1,c2,c3,c4,c5,c6,hnm⟩:=hB;have HL:=Qh hL;have HS:=Qh hstep;have HN:=Qh hnm;obtain ⟨v,hv⟩:∃ v,aP b.name=v:=⟨_,rfl⟩;have HV:=Qh hv;have hlL:w.heap.size < wa.heap.size:=xL.lt;clear h hL hstep hnm hbi hv HX;go_wp2_with fail;(with_reducible refine (lK _ b.name HN.out v HV.out).mono ?_);rintro e' w1 ⟨rfl,hb1⟩;have q1:=hb1.q1;have x1:Blk w1 wa.heap.size 79 #[ae b.name,.int .i64 b.kind,.int .i64 b.a,.int .i64 b.point,.int .i64 b.b,.int .i64 b.on,.int .i64 b.to_]:=(ah _ _ _ (by simp)).below hb1 (by simp);have xL1:=xL.below q1 xL.lt;have bw1:=hb.trans (q1.mono hb.size);clear hb1 c0 c1 c2 c3 c4 c5 c6
   have hxz:∀ z:Int,z≠0→(aQ L) (L.joints.take i) b=z→x=z:=fun z hz hm=>by
    rcases HS.out with ⟨u,_⟩ | ⟨_,u⟩
    ·exact absurd (hm.symm.trans u) hz
    exact u.symm.trans hm
   cases v
   ·have h5:x=5:=hxz 5 (by decide) (if_pos HV.out)
    clear hxz;go_wp2;go_ret;exact ⟨by rw [h5];rfl,bw1⟩
   have HXZ:=Qh hxz;clear hxz;have cL:=xL1.cell 2;go_wp2_with fail;clear cL;go_loopw [31] (fun jv wr=>∃ j:Nat,jv=.int .i64 (j:Nat)∧j≤i∧Hid (twN ((L.joints.take j).map aN.name) b.name=false)∧Below w1.heap.size w1 wr) (fun jv _=>i - (intOf jv).toNat)
   case atStart=>exact ⟨0,rfl,Nat.zero_le _,Qh rfl,aa w1⟩
   case round =>
    obtain ⟨j,rfl,hj,HT,hb2⟩:=hrel;rename World=>w2;have x2:=x1.below hb2 x1.lt;have xL2:=xL1.below hb2 xL1.lt;have bw2:=bw1.trans (hb2.mono bw1.size);have cB0:=x2.cell 0;have hlw:wa.heap.size < w2.heap.size:=x2.lt;have hlL2:w.heap.size < w2.heap.size:=xL2.lt;rcases Nat.lt_or_ge j i with hjl | hjg
    ·have hj1:((j:Int) < (i:Int))=True:=by simp;omega
     have hjn:j < p:=by omega
     obtain ⟨a,ha,hA⟩:=((HL.out.joints.jt q1).jt hb2).rowAt hjn;obtain ⟨d0,d1,d2,d3,d4,d5,d6,hn2⟩:=hA;have hgw:g < w2.heap.size:=by have:=hb2.size;have:=q1.size;omega
     clear hn2;have hne1:¬ wa.heap.size=w2.heap.size:=by omega
     have hne2:¬ g=w2.heap.size:=by omega
     have htl:=az b.name;by_cases heq:a.name=b.name
     ·have h6:x=6:=HXZ.out 6 (by decide) (by
       show aQ L (L.joints.take i) b=6;unfold aQ
       rw [HV.out,if_neg (by decide),if_pos (dU ha hjl heq)])
      rw [heq] at d0;have hee:(b.name == b.name)=true:=by simp
      clear heq ha;go_wp2;go_ret;exact ⟨by rw [h6];rfl,bw2.alloc bw2.size _⟩
     have hta:=az a.name;have HT2:=Qh (eC ha HT.out heq);have hee:(a.name == b.name)=false:=beq_eq_false_iff_ne.2 heq;clear heq ha HT;go_wp2_with fail;go_roundw
     case rel=>exact ⟨j+1,by go_num,by omega,HT2,hb2.alloc hb2.size _⟩
     case measure=>simp [intOf];omega
    have hj1:((j:Int) < (i:Int))=False:=by simp;omega
    obtain rfl:j=i:=by omega
    clear cB0;have cL0:=xL2.cell 0;have cL1:=xL2.cell 1;have cL2:=xL2.cell 2;have cL3:=xL2.cell 3;have z0:=x2.cell 0;have z1:=x2.cell 1;have z2:=x2.cell 2;have z3:=x2.cell 3;have z4:=x2.cell 4;have z5:=x2.cell 5;have z6:=x2.cell 6;obtain ⟨y,hy⟩:∃ y,bh L b=y:=⟨_,rfl⟩
    have HE:Hid (aQ L (L.joints.take j) b=y):=Qh (by
     unfold aQ
     rw [HV.out,if_neg (by decide),HT.out,if_neg (by decide)];exact hy)
    have HY:=Qh hy;clear hy;go_wp2_with fail;(with_reducible refine (xW _ A n c _ p d C q e L.name b L k ((HL.out.bodies.bd q1).bd hb2) hk hk1 hn y HY.out).mono ?_);rintro e' w3 ⟨rfl,hb3⟩;have bw3:=bw2.trans (hb3.mono bw2.size);have xL3:=xL2.below hb3 xL2.lt;clear cL0 cL1 cL2 cL3 z0 z1 z2 z3 z4 z5 z6;by_cases hy0:y=0
    ·have HX2:Hid (bq (aQ L) (L.joints.take (j+1)) (L.joints.drop (j+1))=x):=Qh (by
      rcases HS.out with ⟨_,u⟩ | ⟨u,_⟩
      ·exact u
      exact absurd (HE.out.trans hy0) u)
     subst hy0;rw [show cD 0=.nilIface from if_pos rfl];go_wp2_with fail;go_roundw
     case rel=>exact ⟨j+1,by go_num,by omega,HX2,xL3,bw3⟩
     case measure=>simp [intOf];omega
    have hxy:x=y:=HXZ.out y hy0 HE.out;rw [show cD y=.iface 49 (.int .i64 y) from if_neg hy0];go_wp2;go_ret;exact ⟨by rw [hxy,show cD y=.iface 49 (.int .i64 y) from if_neg hy0];rfl,bw3⟩
  have hi1:((i:Int) < (p:Int))=False:=by simp;omega
  have hx0:x=0:=eB HX.out (by rw [HLN.out];exact hge);go_wp2;go_ret;exact ⟨by rw [hx0];rfl,hb⟩
theorem tQ (w:World) (A:Option Addr) (n c:Nat) (B:Option Addr) (p d:Nat) (C:Option Addr) (q e:Nat) (L:ao) (k:Nat) (h:LkS k w A n c B p d C q e L) (hk:k≤10000000) (hk1:0 < k) (hn:n≤1000) (x:Int) (hx:(if 2 < L.drivers.length then 4 else bq (ax n) [] L.drivers)=x):Calls Tryz.prog 78 #[.agg #[ae L.name,.slice A n c,.slice B p d,.slice C q e]] w (av w (cD x)):=by
 have hln:=h.drivers.1;have hlb:=h.bodies.1;by_cases h8:2 < q
 ·have f8:((2:Int) < (q:Int))=True:=eq_true (by omega)
  have h4:x=4:=by rw [← hx,if_pos (by rw [hln];exact h8)]
  clear hln hlb;go_in;go_wp2;go_ret;exact ⟨by rw [h4];rfl,(aa w).alloc Qr _⟩
 have f8:((2:Int) < (q:Int))=False:=eq_false (by omega);have hbd:q≤2:=by omega
 rw [if_neg (by rw [hln];exact h8)] at hx;have hnc:=h.drivers.2.1;have HX:=Qh (cX hx);have HLN:=Qh hln;have HLB:=Qh hlb;clear hx hln hlb h8;go_in;go_wp2_with fail;go_loopw [17] (fun iv wr=>∃ i:Nat,iv=.int .i64 (i:Nat)∧i≤q∧Hid (bq (ax n) (L.drivers.take i) (L.drivers.drop i)=x)∧Blk wr w.heap.size 36 #[ae L.name,.slice A n c,.slice B p d,.slice C q e]∧Below w.heap.size w wr) (fun iv _=>q - (intOf iv).toNat)
 case atStart=>exact ⟨0,rfl,Nat.zero_le _,HX,ah _ _ _ (by simp),(aa w).alloc Qr _⟩
 case round =>
  clear HX;obtain ⟨i,rfl,hi,HX,xL,hb⟩:=hrel;rename World=>wa;rcases Nat.lt_or_ge i q with hlt | hge
  ·have hi1:((i:Int) < (q:Int))=True:=by simp;omega
   have hL:=h.belw hb;obtain ⟨g,o,b,e1,hg,_,hbi,hB⟩:=hL.drivers.at_ hlt;subst e1;have hstep:=du HX.out hbi;obtain ⟨c0,c1,hnm⟩:=hB;have HL:=Qh hL;have HS:=Qh hstep;have HN:=Qh hnm;obtain ⟨v,hv⟩:∃ v,aP b.name=v:=⟨_,rfl⟩;have HV:=Qh hv;have hlL:w.heap.size < wa.heap.size:=xL.lt;clear h hL hstep hnm hbi hv HX;go_wp2_with fail;(with_reducible refine (lK _ b.name HN.out v HV.out).mono ?_);rintro e' w1 ⟨rfl,hb1⟩;have q1:=hb1.q1;have x1:Blk w1 wa.heap.size 81 #[ae b.name,.int .i64 b.body]:=(ah _ _ _ (by simp)).below hb1 (by simp);have xL1:=xL.below q1 xL.lt;have bw1:=hb.trans (q1.mono hb.size);clear hb1 c0 c1
   have hxz:∀ z:Int,z≠0→(ax n) (L.drivers.take i) b=z→x=z:=fun z hz hm=>by
    rcases HS.out with ⟨u,_⟩ | ⟨_,u⟩
    ·exact absurd (hm.symm.trans u) hz
    exact u.symm.trans hm
   cases v
   ·have h5:x=5:=hxz 5 (by decide) (if_pos HV.out)
    clear hxz;go_wp2;go_ret;exact ⟨by rw [h5];rfl,bw1⟩
   have HXZ:=Qh hxz;clear hxz;have cL:=xL1.cell 3;go_wp2_with fail;clear cL;go_loopw [32] (fun jv wr=>∃ j:Nat,jv=.int .i64 (j:Nat)∧j≤i∧Hid (twN ((L.drivers.take j).map bc.name) b.name=false)∧Below w1.heap.size w1 wr) (fun jv _=>i - (intOf jv).toNat)
   case atStart=>exact ⟨0,rfl,Nat.zero_le _,Qh rfl,aa w1⟩
   case round =>
    obtain ⟨j,rfl,hj,HT,hb2⟩:=hrel;rename World=>w2;have x2:=x1.below hb2 x1.lt;have xL2:=xL1.below hb2 xL1.lt;have bw2:=bw1.trans (hb2.mono bw1.size);have cB0:=x2.cell 0;have hlw:wa.heap.size < w2.heap.size:=x2.lt;have hlL2:w.heap.size < w2.heap.size:=xL2.lt;rcases Nat.lt_or_ge j i with hjl | hjg
    ·have hj1:((j:Int) < (i:Int))=True:=by simp;omega
     have hjn:j < q:=by omega
     obtain ⟨a,ha,hA⟩:=((HL.out.drivers.dr q1).dr hb2).rowAt hjn;obtain ⟨d0,d1,hn2⟩:=hA;have hgw:g < w2.heap.size:=by have:=hb2.size;have:=q1.size;omega
     clear hn2;have hne1:¬ wa.heap.size=w2.heap.size:=by omega
     have hne2:¬ g=w2.heap.size:=by omega
     have htl:=az b.name;by_cases heq:a.name=b.name
     ·have h6:x=6:=HXZ.out 6 (by decide) (by
       show ax n (L.drivers.take i) b=6;unfold ax
       rw [HV.out,if_neg (by decide),if_pos (dU ha hjl heq)])
      rw [heq] at d0;have hee:(b.name == b.name)=true:=by simp
      clear heq ha;go_wp2;go_ret;exact ⟨by rw [h6];rfl,bw2.alloc bw2.size _⟩
     have hta:=az a.name;have HT2:=Qh (eC ha HT.out heq);have hee:(a.name == b.name)=false:=beq_eq_false_iff_ne.2 heq;clear heq ha HT;go_wp2_with fail;go_roundw
     case rel=>exact ⟨j+1,by go_num,by omega,HT2,hb2.alloc hb2.size _⟩
     case measure=>simp [intOf];omega
    have hj1:((j:Int) < (i:Int))=False:=by simp;omega
    obtain rfl:j=i:=by omega
    clear cB0;have cL1:=xL2.cell 1;have z1:=x2.cell 1;obtain ⟨v1,hv1⟩:∃ v,inI b.body n=v:=⟨_,rfl⟩;have HV1:=Qh hv1;have HT9:=HT;clear hv1;go_wp2_with fail;(with_reducible refine (tI _ b.body n v1 HV1.out).mono ?_);rintro e' w3 ⟨rfl,hb3⟩;have bw3:=bw2.trans (hb3.mono bw2.size);have xL3:=xL2.below hb3 xL2.lt;have x3:=x2.below hb3 x2.lt;clear cL1 z1;cases v1
    ·have h9:x=9:=HXZ.out 9 (by decide) (by
      show ax n (L.drivers.take j) b=9;unfold ax
      rw [HV.out,if_neg (by decide),HT9.out,if_neg (by decide),if_pos HV1.out])
     go_wp2;go_ret;exact ⟨by rw [h9];rfl,bw3⟩
    have z1:=x3.cell 1;have cL3:=xL3.cell 3;have hl3:wa.heap.size < w3.heap.size:=x3.lt;by_cases hb0:b.body=0
    ·have e0:(b.body == 0)=true:=beq_iff_eq.2 hb0
     have h7:x=7:=HXZ.out 7 (by decide) (by
      show ax n (L.drivers.take j) b=7;unfold ax
      rw [HV.out,if_neg (by decide),HT9.out,if_neg (by decide),HV1.out,if_neg (by decide),if_pos hb0])
     clear hb0;go_wp2;go_ret;exact ⟨by rw [h7];rfl,bw3⟩
    have e0:(b.body == 0)=false:=beq_eq_false_iff_ne.2 hb0;have HB0:=Qh hb0;clear hb0;go_wp2_with fail;clear z1 cL3;go_loopw [60] (fun jv wr=>∃ r:Nat,jv=.int .i64 (r:Nat)∧r≤j∧Hid (((L.drivers.take r).any fun p=>p.body == b.body)=false)∧Below w3.heap.size w3 wr) (fun jv _=>j - (intOf jv).toNat)
    case atStart=>exact ⟨0,rfl,Nat.zero_le _,Qh rfl,aa w3⟩
    case round =>
     obtain ⟨r,rfl,hr,HR,hb4⟩:=hrel;rename World=>w4;have x4:=x3.below hb4 x3.lt;have xL4:=xL3.below hb4 xL3.lt;have bw4:=bw3.trans (hb4.mono bw3.size);have z1:=x4.cell 1;have hl4:wa.heap.size < w4.heap.size:=x4.lt;rcases Nat.lt_or_ge r j with hrl | hrg
     ·have hr1:((r:Int) < (j:Int))=True:=by simp;omega
      have hrn:r < q:=by omega
      obtain ⟨a,ha,hA⟩:=((((HL.out.drivers.dr q1).dr hb2).dr hb3).dr hb4).rowAt hrn;obtain ⟨d0,d1,hn2⟩:=hA;have hgw:g < w4.heap.size:=by have:=hb4.size;have:=hb3.size;have:=hb2.size;have:=q1.size;omega
      clear hn2;have hne1:¬ wa.heap.size=w4.heap.size:=by omega
      have hne2:¬ g=w4.heap.size:=by omega
      have ht4:L.drivers.take (r+1)=L.drivers.take r ++ [a]:=by rw [List.take_add_one,ha];rfl
      by_cases heq:a.body=b.body
      ·have h6:x=6:=HXZ.out 6 (by decide) (by
        show ax n (L.drivers.take j) b=6;unfold ax;rw [HV.out,if_neg (by decide),HT9.out,if_neg (by decide),HV1.out,if_neg (by decide),if_neg HB0.out,if_pos];rw [List.any_eq_true]
        exact ⟨a,List.mem_of_getElem? (i:=r) (by rw [List.getElem?_take,if_pos hrl];exact ha),by simpa using heq⟩)
       have hee:(a.body == b.body)=true:=beq_iff_eq.2 heq;clear heq ha ht4;go_wp2;go_ret;exact ⟨by rw [h6];rfl,bw4.alloc bw4.size _⟩
      ·have HR2:Hid (((L.drivers.take (r+1)).any fun p=>p.body == b.body)=false):=Qh (by
        rw [ht4,List.any_append,HR.out]
        simpa using heq)
       have hee:(a.body == b.body)=false:=beq_eq_false_iff_ne.2 heq;clear heq ha ht4 HR;go_wp2_with fail;go_roundw
       case rel=>exact ⟨r+1,by go_num,by omega,HR2,hb4.alloc hb4.size _⟩
       case measure=>simp [intOf];omega
     have hr1:((r:Int) < (j:Int))=False:=by simp;omega
     obtain rfl:r=j:=by omega
     have h0:ax n (L.drivers.take r) b=0:=by
      unfold ax;rw [HV.out,if_neg (by decide),HT9.out,if_neg (by decide),HV1.out,if_neg (by decide),if_neg HB0.out,HR.out];rfl
     have HX2:Hid (bq (ax n) (L.drivers.take (r+1)) (L.drivers.drop (r+1))=x):=Qh (by
      rcases HS.out with ⟨_,u⟩ | ⟨u,_⟩
      ·exact u
      exact absurd h0 u)
     clear h0 z1;go_wp2_with fail;go_roundw
     case rel=>exact ⟨r+1,by go_num,by omega,HX2,xL4,bw4⟩
     case measure=>simp [intOf];omega
  have hi1:((i:Int) < (q:Int))=False:=by simp;omega
  have hx0:x=0:=eB HX.out (by rw [HLN.out];exact hge);go_wp2;go_ret;exact ⟨by rw [hx0];rfl,hb⟩
theorem eVp {x:Int}(h:x≠0):cD x=.iface 49 (.int .i64 x):=if_neg h
theorem eV0:cD 0=.nilIface:=if_pos rfl
theorem sn (w:World) (A:Option Addr) (n c:Nat) (B:Option Addr) (p d:Nat) (C:Option Addr) (q e:Nat) (L:ao) (k:Nat) (h:LkS k w A n c B p d C q e L) (hk:k≤10000000) (hk1:0 < k) (x:Int) (hx:dh L=x) :
 Calls Tryz.prog 42 #[.agg #[ae L.name,.slice A n c,.slice B p d,.slice C q e]] w (av w (cD x)):=by
 have hln:=h.bodies.1;obtain ⟨v,hv⟩:∃ v,aP L.name=v:=⟨_,rfl⟩;have HV:=Qh hv;have HX:=Qh hx;have HL:=Qh hln;have H:=Qh h;clear hv hx hln h;go_in;go_wp2_with fail;(with_reducible refine (lK _ L.name H.out.name v HV.out).mono ?_);rintro e' w1 ⟨rfl,hb1⟩;have q1:=hb1.q1;have x1:Blk w1 w.heap.size 36 #[ae L.name,.slice A n c,.slice B p d,.slice C q e]:=(ah _ _ _ (by simp)).below hb1 (by simp);clear hb1;cases v
 ·have h5:x=5:=by rw [← HX.out];unfold dh;rw [if_pos HV.out]
  go_wp2;go_ret;exact ⟨by rw [h5];rfl,q1⟩
 have hX1:x=if n=0 then 10 else if 8 < n then 4 else if bq aU [] L.bodies≠0 then bq aU [] L.bodies
  else if 16 < L.joints.length then 4 else if bq (aQ L) [] L.joints≠0 then bq (aQ L) [] L.joints
  else if 2 < L.drivers.length then 4 else bq (ax n) [] L.drivers:=by
  rw [← HX.out];unfold dh;rw [if_neg (by rw [HV.out];decide),HL.out]
 obtain ⟨y1,hy1⟩:∃ y,bq aU [] L.bodies=y:=⟨_,rfl⟩;obtain ⟨y2,hy2⟩:∃ y,(if 16 < L.joints.length then (4:Int) else bq (aQ L) [] L.joints)=y:=⟨_,rfl⟩;obtain ⟨y3,hy3⟩:∃ y,(if 2 < L.drivers.length then (4:Int) else bq (ax n) [] L.drivers)=y:=⟨_,rfl⟩
 have hX2:x=if n=0 then 10 else if 8 < n then 4 else if y1≠0 then y1 else if y2≠0 then y2 else y3:=by
  rw [hX1,hy1,← hy2,← hy3];by_cases a:16 < L.joints.length
  ·simp [a]
  simp [a]
 have HX2:=Qh hX2;have HY1:=Qh hy1;have HY2:=Qh hy2;have HY3:=Qh hy3;clear hX1 hX2 hy1 hy2 hy3;have cx1:=x1.cell 1;by_cases h0:n=0
 ·have e0:((n:Int) == 0)=true:=beq_iff_eq.2 (by omega)
  have e00:((n:Int)=0)=True:=eq_true (by omega);have h10:x=10:=by rw [HX2.out,if_pos h0]
  clear h0;go_wp2;go_ret;exact ⟨by rw [h10];rfl,q1⟩
 have e0:((n:Int) == 0)=false:=beq_eq_false_iff_ne.2 (by omega);have e00:((n:Int)=0)=False:=eq_false (by omega);by_cases h8:8 < n
 ·have e8:((8:Int) < (n:Int))=True:=eq_true (by omega)
  have h4:x=4:=by rw [HX2.out,if_neg h0,if_pos h8]
  go_wp2;go_ret;exact ⟨by rw [h4];rfl,q1⟩
 have e8:((8:Int) < (n:Int))=False:=eq_false (by omega);have hX3:x=if y1≠0 then y1 else if y2≠0 then y2 else y3:=by rw [HX2.out,if_neg h0,if_neg h8]
 have HX3:=Qh hX3;clear hX3 h0;go_wp2_with fail;(with_reducible refine (vM _ A n c L.bodies k (H.out.bodies.bd q1) (by omega) (by omega) y1 HY1.out).mono ?_);rintro e' w2 ⟨rfl,hb2⟩;have q2:=q1.trans (hb2.mono q1.size);have x2:=x1.below hb2 x1.lt;clear cx1;by_cases h1:y1=0
 case neg =>
  have hxy:x=y1:=by rw [HX3.out,if_pos h1]
  rw [eVp h1];go_wp2;go_ret;exact ⟨by rw [hxy,eVp h1];rfl,q2⟩
 have hX4:x=if y2≠0 then y2 else y3:=by rw [HX3.out,if_neg (by simp [h1])]
 have HX4:=Qh hX4;clear hX4;subst h1;rw [eV0];have cx0:=x2.cell 0;have cx1:=x2.cell 1;have cx2:=x2.cell 2;have cx3:=x2.cell 3;go_wp2_with fail;(with_reducible refine (vX _ A n c B p d C q e L k (H.out.belw q2) hk hk1 (by omega) y2 HY2.out).mono ?_);rintro e' w3 ⟨rfl,hb3⟩;have q3:=q2.trans (hb3.mono q2.size);have x3:=x2.below hb3 x2.lt;clear cx0 cx1 cx2 cx3;by_cases h2:y2=0
 case neg =>
  have hxy:x=y2:=by rw [HX4.out,if_pos h2]
  rw [eVp h2];go_wp2;go_ret;exact ⟨by rw [hxy,eVp h2];rfl,q3⟩
 have hX5:x=y3:=by rw [HX4.out,if_neg (by simp [h2])]
 subst hX5;subst h2;rw [eV0];have cx0:=x3.cell 0;have cx1:=x3.cell 1;have cx2:=x3.cell 2;have cx3:=x3.cell 3;go_wp2_with fail;(with_reducible refine (tQ _ A n c B p d C q e L k (H.out.belw q3) hk hk1 (by omega) x HY3.out).mono ?_);rintro e' w4 ⟨rfl,hb4⟩;have q4:=q3.trans (hb4.mono q3.size);clear cx0 cx1 cx2 cx3;go_wp2;go_ret;exact ⟨rfl,q4⟩
/-! Only the block gr has turned. -/
section
variable {w w' w2:World}{gr:Nat}
theorem rg_refl (gr:Nat) (w:World):w.grownBy w (some gr):=⟨rfl,rfl,rfl,Qr,fun _ _ _=>rfl⟩
theorem aD (h:w.grownBy w' (some gr)) (k:w'.grownBy w2 (some gr)):w.grownBy w2 (some gr) :=
 ⟨k.os.trans h.os,k.tape.trans h.tape,k.output.trans h.output,Nat.le_trans h.size k.size,fun i hi hne=>(k.block i (Nat.lt_of_lt_of_le hi h.size) hne).trans (h.block i hi hne)⟩
theorem rg_set (h:w.grownBy w' (some gr)) (i:Nat) (u:Value):w.grownBy (w'.setCell ⟨gr,i,none⟩ u) (some gr) :=
 aD h ⟨rfl,rfl,rfl,by simp [World.setCell],fun k _ hne=>Below.heap_setCell w' ⟨gr,i,none⟩ u k (fun e=>hne (by rw [e]))⟩
theorem da (h:w.grownBy w' (some gr)) (k:Below w'.heap.size w' w2):w.grownBy w2 (some gr) :=
 aD h ⟨k.os,k.tape,k.output,k.size,fun i hi _=>k.block i hi⟩
theorem aZ (h:w.grownBy w' (some gr)) (o:Obj):w.grownBy (w'.alloc o) (some gr):=da h ((Below.refl _ _).alloc Qr o)
theorem xX (h:w.grownBy w' (some gr)):w.grownBy w'.drew (some gr):=⟨h.os,h.tape,h.output,h.size,h.block⟩
theorem dN {B:Nat}(h:w.grownBy w' (some gr)) (hB:B≤w.heap.size) (hg:B≤gr):Below B w w':=(Below.refl B w).grown h hB (fun k e=>by injection e with e;omega)
theorem bD {g t:Nat}{cs:Array Value}(h:w.grownBy w' (some gr)) (x:Blk w g t cs) (hne:g≠gr):Blk w' g t cs:=(h.block g x.lt (fun e=>hne (by injection e))).trans x
theorem sq {g t:Nat}{cs:Array Value}(h:w.grownBy w' (some gr)) (x:w.heap[g]?=some (.cells cs t (0,0))) (hne:g≠gr):w'.heap[g]?=some (.cells cs t (0,0)):=(h.block g (lt_of_block x) (fun e=>hne (by injection e))).trans x
end
def TkA (B:Nat) (w:World) (A:Option Addr) (n c:Nat) (l:List Tkn):Prop:=l.length=n∧n≤c∧(0 < n→∃ g o,A=some ⟨g,o,none⟩∧g < B∧∀ i v,(cM l)[i]?=some v→w.cell? ⟨g,o+i,none⟩=some v)
def MxA (B:Nat) (w:World):Prop:=0 < B∧Mx w
section
variable {B:Nat}{w w':World}{A:Option Addr}{n c gr:Nat}{l:List Tkn}
theorem TkA.rg (h:TkA B w A n c l) (hB:B≤gr) (k:w.grownBy w' (some gr)):TkA B w' A n c l:=by
 refine ⟨h.1,h.2.1,fun hn=>?_⟩;obtain ⟨g,o,e,hg,hc⟩:=h.2.2 hn;exact ⟨g,o,e,hg,fun i v hv=>k.cell (hc i v hv) (fun e=>by injection e with e;simp only at e;omega)⟩
theorem TkA.belB (h:TkA B w A n c l) (k:Below B w w'):TkA B w' A n c l:=by
 refine ⟨h.1,h.2.1,fun hn=>?_⟩;obtain ⟨g,o,e,hg,hc⟩:=h.2.2 hn;exact ⟨g,o,e,hg,fun i v hv=>(k.cell (p:=⟨g,o+i,none⟩) hg).trans (hc i v hv)⟩
theorem TkA.of_tks (h:TkS w A n c l):TkA w.heap.size w A n c l:=by
 refine ⟨h.1,?_,fun hn=>?_⟩
 ·rcases h.2 with ⟨h1,_,h3⟩ | ⟨g,_,h1,_⟩
  ·omega
  exact h1
 rcases h.2 with ⟨h1,_,h3⟩ | ⟨g,e,h1,hc⟩
 ·omega
 have hl:0 < (cM l).length:=by rw [tE,h.1];omega
 have h0:(cM l)[0]?=some ((cM l)[0]'hl):=List.getElem?_eq_getElem hl;exact ⟨g,0,e,World.block_lt_of_cell? w ⟨g,0,none⟩ (hc 0 _ h0),fun i v hv=>by rw [Nat.zero_add];exact hc i v hv⟩
theorem TkA.head {t:Tkn}(h:TkA B w A n c (t :: l)):∃ g o,A=some ⟨g,o,none⟩∧g < B∧w.cell? ⟨g,o,none⟩=some (.int .i64 (t.kind:Nat))∧w.cell? ⟨g,o+1,none⟩=some (ae t.text)∧w.cell? ⟨g,o+2,none⟩=some (.int .i64 (t.line:Nat))∧w.cell? ⟨g,o+3,none⟩=some (.int .i64 (t.col:Nat)):=by
 obtain ⟨g,o,e,hg,hc⟩:=h.2.2 (by rw [← h.1];simp);exact ⟨g,o,e,hg,hc 0 _ rfl,hc 1 _ rfl,hc 2 _ rfl,hc 3 _ rfl⟩
theorem TkA.tail {t:Tkn}{A':Option Addr}{n' c':Nat}(h:TkA B w A n c (t :: l)) (hA:A'=if c=1 then A else A.map (·.add 4)) (hn:n'=n - 1) (hc:c'=c - 1):TkA B w A' n' c' l:=by
 subst hn hc;have hl:l.length+1=n:=by rw [← h.1];simp
 refine ⟨by omega,by have:=h.2.1;omega,fun hn=>?_⟩;obtain ⟨g,o,e,hg,hc⟩:=h.2.2 (by omega);have hc1:¬ c=1:=by have:=h.2.1;omega
 rw [if_neg hc1,e] at hA;refine ⟨g,o+4,hA,hg,fun i v hv=>?_⟩
 have h1:(cM (t :: l))[i+4]?=some v:=by
  have:cM (t :: l)=mB t ++ cM l:=rfl;rw [this,List.getElem?_append_right (by simp [mB])];simpa [mB] using hv
 have:=hc _ _ h1;rwa [show o+(i+4)=o+4+i by omega] at this
theorem MxA.rg (h:MxA B w) (hB:B≤gr) (k:w.grownBy w' (some gr)):MxA B w':=by
 obtain ⟨h1,m,hm⟩:=h;exact ⟨h1,m,k.cell hm (fun e=>by injection e with e;simp only at e;omega)⟩
theorem MxA.belB (h:MxA B w) (k:Below B w w'):MxA B w':=by
 obtain ⟨h1,m,hm⟩:=h;exact ⟨h1,m,(k.cell (p:=⟨_,0,none⟩) h1).trans hm⟩
theorem MxA.out (h:MxA B w):Mx w:=h.2
theorem MxA.of_mx (h:Mx w):MxA w.heap.size w:=by
 obtain ⟨m,hm⟩:=h;exact ⟨World.block_lt_of_cell? w ⟨_,0,none⟩ hm,m,hm⟩
end
structure RdP (B:Nat) (w:World) (gr:Nat) (c1 c2 c3 c4:Value) (s:PS):Prop where
  blk:∃ A n c,Blk w gr 87 #[.slice A n c,c1,c2,c3,c4,cD s.x]∧TkA B w A n c s.toks
  mx:MxA B w
  hB:B≤gr
  len:s.toks.length≤65536
  txt:∀ t∈s.toks,NmL t.text
  hw:noW c1=true∧noW c2=true∧noW c3=true∧noW c4=true
def qZ (B:Nat) (w:World) (gr:Nat) (c1 c2 c3 c4:Value) (v:Value) (s:PS) (e:Ending) (w':World):Prop:=e=.returned v∧RdP B w' gr c1 c2 c3 c4 s∧w.grownBy w' (some gr)
section
variable {B:Nat}{w w':World}{gr:Nat}{c1 c2 c3 c4:Value}{s:PS}
theorem RdP.lt (h:RdP B w gr c1 c2 c3 c4 s):gr < w.heap.size:=by obtain ⟨A,n,c,hb,_⟩:=h.blk;exact hb.lt
theorem RdP.bel1 (h:RdP B w gr c1 c2 c3 c4 s) (k:Below (gr+1) w w'):RdP B w' gr c1 c2 c3 c4 s:=by
 obtain ⟨A,n,c,hb,ht⟩:=h.blk;have hB:=h.hB;have k':Below B w w':=k.mono (by omega);exact ⟨⟨A,n,c,hb.below k (by omega),ht.belB k'⟩,h.mx.belB k',h.hB,h.len,h.txt,h.hw⟩
theorem RdP.belw (h:RdP B w gr c1 c2 c3 c4 s) (k:Below w.heap.size w w'):RdP B w' gr c1 c2 c3 c4 s:=by
 obtain ⟨A,n,c,hb,ht⟩:=h.blk;have hlt:=hb.lt;have hB:=h.hB;have k':Below B w w':=k.mono (by omega);exact ⟨⟨A,n,c,hb.below k hlt,ht.belB k'⟩,h.mx.belB k',h.hB,h.len,h.txt,h.hw⟩
theorem RdP.alloc (h:RdP B w gr c1 c2 c3 c4 s) (o:Obj):RdP B (w.alloc o) gr c1 c2 c3 c4 s:=h.belw ((Below.refl _ _).alloc Qr o)
theorem RdP.far (h:RdP B w gr c1 c2 c3 c4 s) {p:Addr}(hp:gr < p.block) (u:Value):RdP B (w.setCell p u) gr c1 c2 c3 c4 s:=by
 obtain ⟨A,n,c,hb,ht⟩:=h.blk;have hB:=h.hB;have k':Below B w (w.setCell p u):=(Below.refl B w).setCell (by omega) u;exact ⟨⟨A,n,c,hb.far (by omega) u,ht.belB k'⟩,h.mx.belB k',h.hB,h.len,h.txt,h.hw⟩
theorem dk {w2:World}(h:w.grownBy w' (some gr)) (k:Below w.heap.size w' w2):w.grownBy w2 (some gr) :=
 ⟨k.os.trans h.os,k.tape.trans h.tape,k.output.trans h.output,Nat.le_trans h.size k.size,fun i hi hne=>(k.block i hi).trans (h.block i hi hne)⟩
theorem bi.rg {α:Type}{T0:TypeId}{Pc:World→List Value→α→Prop}{sz base n:Nat}{v:Value}{l:List α}(h:bi T0 Pc sz w base v n l) (hgr:gr < base) (k:w.grownBy w' (some gr)) (hP:∀ cs a,Pc w cs a→Pc w' cs a):bi T0 Pc sz w' base v n l :=
 h.same (fun g _ hg hc=>sq k hc (by omega)) hP
theorem xY (x:Int):noW (cD x)=true:=by unfold cD;split <;> rfl
theorem RdP.tch {T:TypeId→Bool}(h:RdP B w gr c1 c2 c3 c4 s) (k:w.grownBy w' (some gr)) (hT:T 87=true):Tch T w w':=by
 obtain ⟨A,n,c,hb,_⟩:=h.blk;obtain ⟨h1,h2,h3,h4⟩:=h.hw;refine Tch.of_ne k.size hb hT ?_ fun g hlt hne=>k.block g hlt (fun e=>hne (by injection e))
 simp only [List.all_cons,List.all_nil,h1,h2,h3,h4,xY,Bool.and_true];rfl
end
def TA:TypeId→Bool:=fun _=>true
theorem fg {w:World}{g t:Nat}{cs:Array Value}(z:Blk w g t cs) (hz:cs.toList.all noW=true) (i j k:Nat) (u0 u1 u2:Value):Tch TA w (((w.setCell ⟨g,i,none⟩ u0).setCell ⟨g,j,none⟩ u1).setCell ⟨g,k,none⟩ u2) :=
 Tch.of_ne (by simp [World.setCell]) z rfl hz fun g' _ hne=>by
  rw [Below.heap_setCell _ _ _ _ hne,Below.heap_setCell _ _ _ _ hne,Below.heap_setCell _ _ _ _ hne]
theorem cA {B g:Nat}(w:World) (hB:B≤g) (i j k:Nat) (u0 u1 u2:Value):Below B w (((w.setCell ⟨g,i,none⟩ u0).setCell ⟨g,j,none⟩ u1).setCell ⟨g,k,none⟩ u2) :=
 (((Below.refl B w).setCell (p:=⟨g,i,none⟩) hB u0).setCell (p:=⟨g,j,none⟩) hB u1).setCell (p:=⟨g,k,none⟩) hB u2
theorem cJ {w w':World}{gr:Nat}(h:w.grownBy w' (some gr)) {p:Addr}(hp:w.heap.size≤p.block) (u:Value):w.grownBy (w'.setCell p u) (some gr) :=
 ⟨h.os,h.tape,h.output,by simp [World.setCell,h.size],fun k hk hne=>(Below.heap_setCell w' p u k (by omega)).trans (h.block k hk hne)⟩
def mOf (gr:Nat) (w:World):Nat:=(match w.cell? ⟨gr,0,none⟩ with | some (.slice _ n _)=>2 * n | _=>0)+(match w.cell? ⟨gr,5,none⟩ with | some .nilIface=>1 | _=>0)
theorem RdP.meas {B:Nat}{w:World}{gr:Nat}{c1 c2 c3 c4:Value}{s:PS}(h:RdP B w gr c1 c2 c3 c4 s):mOf gr w=2 * s.toks.length+if s.x=0 then 1 else 0:=by
 obtain ⟨A,n,c,hb,ht⟩:=h.blk;unfold mOf;rw [hb.cell 0,hb.cell 5];show 2 * n+(match some (cD s.x) with | some .nilIface=>1 | _=>0)=_;rw [ht.1];by_cases hx:s.x=0
 ·rw [if_pos hx,hx,dE]
 rw [if_neg hx,eVp hx]
theorem ss:(Tryz.prog.info? 67).map (fun i=>(i.zero,i.size,i.bytes))=some (some (.agg #[.string ⟨#[]⟩,.bool false,.slice none 0 0,.slice none 0 0,.bool false,.slice none 0 0,.slice none 0 0]),7,128):=by kernel_rfl
theorem iE:(Tryz.prog.info? 62).map (fun i=>(i.zero,i.size,i.bytes))=some (some (.agg #[.string ⟨#[]⟩,.slice none 0 0]),2,40):=by kernel_rfl
theorem iG:(Tryz.prog.info? 79).map (fun i=>(i.zero,i.size,i.bytes))=some (some (.agg #[.string ⟨#[]⟩,.int .i64 0,.int .i64 0,.int .i64 0,.int .i64 0,.int .i64 0,.int .i64 0]),7,64):=by kernel_rfl
theorem iI:(Tryz.prog.info? 81).map (fun i=>(i.zero,i.size,i.bytes))=some (some (.agg #[.string ⟨#[]⟩,.int .i64 0]),2,24):=by kernel_rfl
end Go.Proofs.YtfilnhompchciaaGreatDoor
