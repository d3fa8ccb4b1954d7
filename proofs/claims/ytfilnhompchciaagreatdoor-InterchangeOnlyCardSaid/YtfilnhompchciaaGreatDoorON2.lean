/- Part ON2: lemmas and walks that the claim rests on. No claim is made here. -/
import Derived.Deep.DeepCutAuto
import Derived.Deep.RegionHeld3
import Derived.Deep.DrawnRows
import Derived.Laws.OwnMore
import Derived.Deep.AppendLies
import Derived.Deep.RegionHeld
import Derived.Lib.ItoaNum
import Derived.Lib.ItoaMem
import Derived.Lib.Repeat
import Derived.Lib.Join
import Derived.Lib.Atoi
import Derived.Lib.SlTrimSet
import Derived.Lib.AppendIntMem
import Derived.Shelf.Strings.SlTrimAscii
import Derived.WalkSpells
import Derived.BigQuiet
import Derived.Lib.IndexMore
import Derived.Test.YtfilnhompchciaaGreatDoorON1
set_option linter.unusedVariables false
set_option maxHeartbeats 8000000
set_option maxRecDepth 100000
/- Integers and fractions as values: what the walks of the layers above lean on. -/
namespace Go.Proofs.YtfilnhompchciaaGreatDoor
open Go Go.RowKit Bn
attribute [local go_sem ↓] Go.wp_at_zero Go.wp_at_succ

def IZ (w:World) (b:Bool) (A:Option Addr) (n c:Nat) (z:Int) (k:Nat):Prop:=∃ l,Wd w A n c l∧WD.z ⟨b,l⟩=z∧n≤k
def IV (w:World) (b:Bool) (A:Option Addr) (n c:Nat) (z:Int) (k:Nat):Prop:=b=(wh z).neg∧Wd w A n c (wh z).mag∧n≤k
def QD (w:World) (b:Bool) (A:Option Addr) (n c:Nat) (A':Option Addr) (n' c':Nat) (a:RD) (k:Nat):Prop:=a.neg=b∧Wd w A n c a.num∧Wd w A' n' c' a.den∧n≤k∧n'≤k
def QZ (w:World) (b:Bool) (A:Option Addr) (n c:Nat) (A':Option Addr) (n' c':Nat) (q:Rat) (k:Nat):Prop:=∃ a,QD w b A n c A' n' c' a k∧a.q=q
def QV (w:World) (b:Bool) (A:Option Addr) (n c:Nat) (A':Option Addr) (n' c':Nat) (q:Rat) (k:Nat):Prop:=QD w b A n c A' n' c' (rd q) k
section
variable {w w':World}{b:Bool}{A A':Option Addr}{n c n' c' k j:Nat}{z:Int}{q:Rat}{a:RD}
theorem IV.iz (h:IV w b A n c z k):IZ w b A n c z k:=by
 obtain ⟨rfl,h1,h2⟩:=h;exact ⟨_,h1,vO z,h2⟩
theorem IZ.belw (h:IZ w b A n c z k) (hb:Below w.heap.size w w'):IZ w' b A n c z k:=by
 obtain ⟨l,h1,h2,h3⟩:=h;exact ⟨l,h1.belw hb,h2,h3⟩
theorem IV.belw (h:IV w b A n c z k) (hb:Below w.heap.size w w'):IV w' b A n c z k:=⟨h.1,h.2.1.belw hb,h.2.2⟩
theorem IZ.keep (h:IZ w b A n c z k) (hb:Kp w w'):IZ w' b A n c z k:=by
 obtain ⟨l,h1,h2,h3⟩:=h;exact ⟨l,h1.keep hb,h2,h3⟩
theorem IV.keep (h:IV w b A n c z k) (hb:Kp w w'):IV w' b A n c z k:=⟨h.1,h.2.1.keep hb,h.2.2⟩
theorem IZ.mono (h:IZ w b A n c z k) (hk:k≤j):IZ w b A n c z j:=by
 obtain ⟨l,h1,h2,h3⟩:=h;exact ⟨l,h1,h2,Nat.le_trans h3 hk⟩
theorem IV.mono (h:IV w b A n c z k) (hk:k≤j):IV w b A n c z j:=⟨h.1,h.2.1,Nat.le_trans h.2.2 hk⟩
theorem QD.belw (h:QD w b A n c A' n' c' a k) (hb:Below w.heap.size w w'):QD w' b A n c A' n' c' a k:=⟨h.1,h.2.1.belw hb,h.2.2.1.belw hb,h.2.2.2⟩
theorem QD.keep (h:QD w b A n c A' n' c' a k) (hb:Kp w w'):QD w' b A n c A' n' c' a k:=⟨h.1,h.2.1.keep hb,h.2.2.1.keep hb,h.2.2.2⟩
theorem QD.mono (h:QD w b A n c A' n' c' a k) (hk:k≤j):QD w b A n c A' n' c' a j:=⟨h.1,h.2.1,h.2.2.1,Nat.le_trans h.2.2.2.1 hk,Nat.le_trans h.2.2.2.2 hk⟩
theorem QD.qz (h:QD w b A n c A' n' c' a k):QZ w b A n c A' n' c' a.q k:=⟨a,h,rfl⟩
theorem QZ.belw (h:QZ w b A n c A' n' c' q k) (hb:Below w.heap.size w w'):QZ w' b A n c A' n' c' q k:=by
 obtain ⟨a,h1,h2⟩:=h;exact ⟨a,h1.belw hb,h2⟩
theorem QZ.keep (h:QZ w b A n c A' n' c' q k) (hb:Kp w w'):QZ w' b A n c A' n' c' q k:=by
 obtain ⟨a,h1,h2⟩:=h;exact ⟨a,h1.keep hb,h2⟩
theorem QZ.mono (h:QZ w b A n c A' n' c' q k) (hk:k≤j):QZ w b A n c A' n' c' q j:=by
 obtain ⟨a,h1,h2⟩:=h;exact ⟨a,h1.mono hk,h2⟩
theorem QV.qz (h:QV w b A n c A' n' c' q k):QZ w b A n c A' n' c' q k:=⟨_,h,tU q⟩
theorem QV.belw (h:QV w b A n c A' n' c' q k) (hb:Below w.heap.size w w'):QV w' b A n c A' n' c' q k:=QD.belw h hb
theorem QV.keep (h:QV w b A n c A' n' c' q k) (hb:Kp w w'):QV w' b A n c A' n' c' q k:=QD.keep h hb
theorem QV.mono (h:QV w b A n c A' n' c' q k) (hk:k≤j):QV w b A n c A' n' c' q j:=QD.mono h hk
theorem WD.z_lt {l:List Nat}(h:Wd w A n c l) (hk:n≤k):(WD.z ⟨b,l⟩).natAbs < 4294967296 ^ k:=by
 have h1:=h.vlt hk;have h2:=hH k;unfold WD.z;split
 ·simp only;split <;> omega
 simpa using h2
theorem IZ.lt (h:IZ w b A n c z k):z.natAbs < 4294967296 ^ k:=by
 obtain ⟨l,h1,rfl,h3⟩:=h;exact WD.z_lt h1 h3
theorem QD.sz (h:QD w b A n c A' n' c' a k) (hk:0 < k):Sz a.q k:=by
 have e1:=RD.q_num h.2.1.1 h.2.2.1.1;have e2:=RD.q_den h.2.1.1 h.2.2.1.1;have h1:=h.2.1.vlt h.2.2.2.1;have h2:=h.2.2.1.vlt h.2.2.2.2;have h3:1 < 4294967296 ^ k:=Nat.one_lt_pow (by omega) (by omega);unfold Sz;rw [e1,e2];refine ⟨?_,?_⟩
 ·unfold RD.n
  split
  ·split <;> omega
  simp;omega
 unfold RD.d;split <;> omega
theorem QZ.sz (h:QZ w b A n c A' n' c' q k) (hk:0 < k):Sz q k:=by
 obtain ⟨a,h1,rfl⟩:=h;exact h1.sz hk
theorem QV.mk_ (h1:Wd w A n c (rd q).num) (h2:Wd w A' n' c' (rd q).den) (hb:(rd q).neg=b) (hs:Sz q k):QV w b A n c A' n' c' q k:=by
 refine ⟨hb,h1,h2,?_,?_⟩
 ·rw [h1.2.1];exact ay hs.1
 rw [h2.2.1];unfold rd;simp only;split
 ·simp
 exact ay hs.2
theorem IV.mk_ (h:Wd w A n c (wh z).mag) (hb:b=(wh z).neg) (hs:z.natAbs < 4294967296 ^ k):IV w b A n c z k :=
 ⟨hb,h,by rw [h.2.1];exact ay hs⟩
end
def mu (w:World) (z:Int) (k:Nat) (e:Ending) (w':World):Prop:=∃ b A n c,e=.returned (.agg #[.bool b,.slice A n c])∧IV w' b A n c z k∧Below w.heap.size w w'
def vV (w:World) (q:Rat) (k:Nat) (e:Ending) (w':World):Prop:=∃ b A n c A' n' c',e=.returned (.agg #[.bool b,.slice A n c,.slice A' n' c'])∧QV w' b A n c A' n' c' q k∧Below w.heap.size w w'
def qh (w:World) (z z':Int) (k:Nat) (e:Ending) (w':World):Prop:=∃ b A n c b' A' n' c',e=.returned (.tuple #[.agg #[.bool b,.slice A n c],.agg #[.bool b',.slice A' n' c']])∧IV w' b A n c z k∧IV w' b' A' n' c' z' k∧Below w.heap.size w w'
def vp (w:World) (v:Value) (z z':Int) (k:Nat) (e:Ending) (w':World):Prop:=∃ b A n c b' A' n' c',e=.returned (.tuple #[.agg #[.bool b,.slice A n c],.agg #[.bool b',.slice A' n' c'],v])∧IV w' b A n c z k∧IV w' b' A' n' c' z' k∧Below w.heap.size w w'
def fy (w:World) (v:Value) (q:Rat) (k:Nat) (e:Ending) (w':World):Prop:=∃ b A n c A' n' c',e=.returned (.tuple #[.agg #[.bool b,.slice A n c,.slice A' n' c'],v])∧QV w' b A n c A' n' c' q k∧Below w.heap.size w w'
theorem ui {a b K:Nat}(ha:a < K) (hb:b < K):Nat.gcd a b < K:=by
 rcases Nat.eq_zero_or_pos a with rfl | h
 ·simpa using hb
 exact Nat.lt_of_le_of_lt (Nat.gcd_le_left _ h) ha
theorem ka.i {w w':World}{z:Int}{k:Nat}{e:Ending}(h:ka w (wh z) e w') (hs:z.natAbs < 4294967296 ^ k):mu w z k e w':=by
 obtain ⟨A,n,c,rfl,h1,h2⟩:=h;exact ⟨_,A,n,c,rfl,IV.mk_ h1 rfl hs,h2⟩
section
variable (w:World) (b A n c z k) (h:IZ w b A n c z k) (b' A' n' c' z' k') (h':IZ w b' A' n' c' z' k')
include h
theorem nr (hk:k≤1000000000):Calls Tryz.prog 190 #[.agg #[.bool b,.slice A n c]] w (mu w (-z) k):=by
 have hz:=h.lt;obtain ⟨l,h1,rfl,h3⟩:=h;exact (vf w b A n c l h1 (by omega)).mono fun _ _ r=>r.i (by omega)
theorem uj (hk:k≤1000000000):Calls Tryz.prog 192 #[.agg #[.bool b,.slice A n c]] w (aE w (.int .i64 z.sign)):=by
 obtain ⟨l,h1,rfl,h3⟩:=h;exact pK w b A n c l h1 (by omega)
include h'
theorem tC (hk:k+k'≤1000000000):Calls Tryz.prog 199 #[.agg #[.bool b,.slice A n c],.agg #[.bool b',.slice A' n' c']] w (mu w (z * z') (k+k')):=by
 have hz:=h.lt;have hz':=h'.lt;obtain ⟨l,h1,rfl,h3⟩:=h;obtain ⟨l',h1',rfl,h3'⟩:=h';exact (vg w b A n c l h1 (by omega) b' A' n' c' l' h1' (by omega)).mono fun _ _ r=>r.i (iW hz hz')
theorem qi (hk:k+k'≤1000000000):Calls Tryz.prog 152 #[.agg #[.bool b,.slice A n c],.agg #[.bool b',.slice A' n' c']] w (aE w (.int .i64 (dq z z'))):=by
 obtain ⟨l,h1,rfl,h3⟩:=h;obtain ⟨l',h1',rfl,h3'⟩:=h';exact vh w b A n c l h1 (by omega) b' A' n' c' l' h1' (by omega)
theorem tD (hk:k+k'≤1000000000):Calls Tryz.prog 153 #[.agg #[.bool b,.slice A n c],.agg #[.bool b',.slice A' n' c']] w (mu w (Nat.gcd z.natAbs z'.natAbs:Nat) (k+k')):=by
 have hz:=h.mono (Nat.le_add_right k k') |>.lt
 have hz':=h'.mono (Nat.le_add_left k' k) |>.lt
 obtain ⟨l,h1,rfl,h3⟩:=h;obtain ⟨l',h1',rfl,h3'⟩:=h';exact (vm w b A n c l h1 (by omega) b' A' n' c' l' h1' (by omega)).mono fun _ _ r=>r.i (by simpa using ui hz hz')
theorem tE (hk:k+k'≤1000000000) (h0:z'≠0):Calls Tryz.prog 251 #[.agg #[.bool b,.slice A n c],.agg #[.bool b',.slice A' n' c']] w (vp w .nilIface (z / z') (z % z') (k+k')):=by
 have hz:=h.mono (Nat.le_add_right k k') |>.lt
 have hz':=h'.mono (Nat.le_add_left k' k) |>.lt
 obtain ⟨l,h1,rfl,h3⟩:=h;obtain ⟨l',h1',rfl,h3'⟩:=h';refine (vo w b A n c l h1 (by omega) b' A' n' c' l' h1' (by omega) h0).mono fun _ _ r=>?_
 obtain ⟨A1,n1,c1,A2,n2,c2,rfl,r1,r2,r3⟩:=r;refine ⟨_,A1,n1,c1,_,A2,n2,c2,rfl,IV.mk_ r1 rfl ?_,IV.mk_ r2 rfl ?_,r3⟩
 ·exact Nat.lt_of_le_of_lt (Int.natAbs_ediv_le_natAbs _ _) hz
 have e1:=Int.emod_nonneg (WD.z ⟨b,l⟩) h0;have e2:=Int.emod_lt (WD.z ⟨b,l⟩) h0;omega
end
theorem vW (w:World) (i:Int) (k:Nat) (h0:-9223372036854775808≤i) (h1:i < 9223372036854775808) (hs:i.natAbs < 4294967296 ^ k):Calls Tryz.prog 198 #[.int .i64 i] w (mu w i k) :=
 (vU w i h0 h1).mono fun _ _ r=>r.i hs
theorem vr (w:World) (i:Int) (h0:-4294967296 < i) (h1:i < 4294967296):Calls Tryz.prog 198 #[.int .i64 i] w (mu w i 1):=vW w i 1 (by omega) (by omega) (by omega)
theorem IZ.zero (w:World):IZ w false none 0 0 0 0:=⟨[],Wd.nil_ w,by simp [WD.z,WD.ok,val],Qr⟩
theorem QZ.zero (w:World):QZ w false none 0 0 none 0 0 0 1:=⟨⟨false,[],[]⟩,⟨rfl,Wd.nil_ w,Wd.nil_ w,by omega,by omega⟩,by have:=tU 0;rw [j9] at this;exact this⟩
theorem QV.zero (w:World) (k:Nat):QV w false none 0 0 none 0 0 0 k:=by
 unfold QV;rw [j9];exact ⟨rfl,Wd.nil_ w,Wd.nil_ w,by omega,by omega⟩
theorem IV.zero (w:World) (k:Nat):IV w false none 0 0 0 k:=⟨rfl,by have:(wh 0).mag=[]:=ax;rw [this];exact Wd.nil_ w,by omega⟩
theorem am (w:World) (c:Array Value) (t:TypeId) {g:Nat}(h:g=w.heap.size):Blk (w.alloc (.cells c t)) g t c:=by subst h;exact Blk.new w t c
theorem Blk.set_at {w:World}{g:Nat}{t:TypeId}{cs:Array Value}(h:Blk w g t cs) (i:Nat) (v:Value) (cs':Array Value) (e:cs.setIfInBounds i v=cs'):Blk (w.setCell ⟨g,i,none⟩ v) g t cs':=by subst e;exact h.set_ i v
theorem Blk.box {w:World}{g:Nat}{t:TypeId}{c:Array Value}(h:Blk w g t c) (hc:noU c=true:=by rfl):Box w g t:=⟨c,_,h,hc⟩
abbrev SeesX (G g:Nat) (W0 W:World):Prop:=((∀ b o,b < G→b≠g→W.cell? ⟨b,o,none⟩=W0.cell? ⟨b,o,none⟩)∧(∀ b o,b < G→W.frozen? ⟨b,o,none⟩=W0.frozen? ⟨b,o,none⟩))∧G≤W.heap.size
theorem SeesX.of {G g:Nat}{W0 W:World}(h:G≤W0.heap.size) (hb:Below W0.heap.size W0 W):SeesX G g W0 W :=
 ⟨⟨fun b o hlt _=>(bM hb).1 b o (Nat.lt_of_lt_of_le hlt h),fun b o hlt=>(bM hb).2 b o (Nat.lt_of_lt_of_le hlt h)⟩,Nat.le_trans h hb.size⟩
theorem SeesX.set {G g:Nat}{W0 W:World}(h:SeesX G g W0 W) {i:Nat}{u:Value}:SeesX G g W0 (W.setCell ⟨g,i,none⟩ u):=by
 refine ⟨⟨fun b o hlt hne=>?_,fun b o hlt=>?_⟩,?_⟩
 ·rw [← h.1.1 b o hlt hne];unfold World.cell?;rw [Below.heap_setCell _ _ _ b hne]
 ·rw [← h.1.2 b o hlt];exact World.frozen?_setCell ..
 have:=h.2;simp [World.setCell];exact this
theorem vt (i:Int):Rat.divInt i 1=(i:Rat):=by have:=tV (i:Rat);simpa using this.symm
theorem sign3 (z:Int):z=0∨z.sign=1∨z.sign=-1:=by
 rcases Int.lt_trichotomy z 0 with h | h | h
 ·exact .inr (.inr (Int.sign_eq_neg_one_of_neg h))
 ·exact .inl h
 exact .inr (.inl (Int.sign_eq_one_of_pos h))
theorem lb {z:Int}(h:z.sign=1):0 < z:=Int.sign_eq_one_iff_pos.1 h
theorem jC {z:Int}(h:z.sign=-1):0 < -z:=by have:=Int.sign_eq_neg_one_iff_neg.1 h;omega
theorem uk {a b:Int}(h:0 < b):((Nat.gcd a.natAbs b.natAbs:Nat):Int)≠0:=by
 have:0 < Nat.gcd a.natAbs b.natAbs:=Nat.gcd_pos_of_pos_right _ (by omega);omega
theorem kj {a:Int}(g:Nat) (h:0 < a):(wh (a / (g:Int))).mag=aB (a.natAbs / g):=by
 have e:(a / (g:Int))=((a.natAbs / g:Nat):Int):=by
  rw [Int.natCast_ediv,Int.natAbs_of_nonneg (by omega)]
 rw [e];rfl
theorem qj {z d:Int}{q:Rat}(hz:z.sign=1) (hd:0 < d) (hq:Rat.divInt z d=q) :
 (rd q).num=(wh (z / ((Nat.gcd z.natAbs d.natAbs:Nat):Int))).mag∧(rd q).den=(wh (d / ((Nat.gcd z.natAbs d.natAbs:Nat):Int))).mag∧(rd q).neg=false:=by
 have hp:=lb hz;rw [← hq,jw (by omega) hd,kj _ hp,kj _ hd];exact ⟨rfl,rfl,by simp;omega⟩
theorem qn {z d:Int}{q:Rat}(hz:z.sign=-1) (hd:0 < d) (hq:Rat.divInt z d=q) :
 (rd q).num=(wh (-z / ((Nat.gcd z.natAbs d.natAbs:Nat):Int))).mag∧(rd q).den=(wh (d / ((Nat.gcd z.natAbs d.natAbs:Nat):Int))).mag∧(rd q).neg=true:=by
 have hp:=jC hz;rw [← hq,jw (by omega) hd,kj _ hp,kj _ hd,Int.natAbs_neg];exact ⟨rfl,rfl,by simp;omega⟩
theorem ef (w:World) (b A n c z k) (h:IZ w b A n c z k) (s:Int) (hs:z.sign=s) (hk:k≤1000000000):Calls Tryz.prog 192 #[.agg #[.bool b,.slice A n c]] w (aE w (.int .i64 s)):=by
 subst hs;exact uj w b A n c z k h hk
theorem km {P:Program}{c:Code}{Q:Exit→Act→World→Prop}{a:Act}{w:World}(h:∀ w6,w6=w→Code.wp P c Q a w6):Code.wp P c Q a w:=h w rfl
section
variable {W w w':World}{g gs t t0 t1 t2:Nat}{c0 c1 c2:Array Value}{a0 a1 a2:Value}
theorem Blk.v2 (h:Blk w g t #[a0,a1]):(w.cell? ⟨g,0,none⟩=some a0∧w.cell? ⟨g,1,none⟩=some a1)∧(w.frozen? ⟨g,0,none⟩=false∧w.frozen? ⟨g,1,none⟩=false)∧g < w.heap.size:=⟨h.c2,h.f2,h.lt⟩
theorem Blk.v3 (h:Blk w g t #[a0,a1,a2]):(w.cell? ⟨g,0,none⟩=some a0∧w.cell? ⟨g,1,none⟩=some a1∧w.cell? ⟨g,2,none⟩=some a2)∧(w.frozen? ⟨g,0,none⟩=false∧w.frozen? ⟨g,1,none⟩=false∧w.frozen? ⟨g,2,none⟩=false)∧g < w.heap.size:=⟨h.c3,h.f3,h.lt⟩
theorem Blk.k2 (h:Blk w g t #[a0,a1]) (hk:KT t=false) (u0 u1:Value) (hn:noU #[a0,a1]=true:=by rfl) (g0:nY u0=true:=by rfl):Kp w ((w.setCell ⟨g,0,none⟩ u0).setCell ⟨g,1,none⟩ u1):=((Kp.refl w).sb (g) 0 (h.box hn) hk u0).sb (g) 1 ((h.box hn).set ⟨g,0,none⟩ u0 g0) hk u1
theorem Blk.k3 (h:Blk w g t #[a0,a1,a2]) (hk:KT t=false) (u0 u1 u2:Value) (hn:noU #[a0,a1,a2]=true:=by rfl) (g0:nY u0=true:=by rfl) (g1:nY u1=true:=by rfl):Kp w (((w.setCell ⟨g,0,none⟩ u0).setCell ⟨g,1,none⟩ u1).setCell ⟨g,2,none⟩ u2):=(((Kp.refl w).sb (g) 0 (h.box hn) hk u0).sb (g) 1 ((h.box hn).set ⟨g,0,none⟩ u0 g0) hk u1).sb (g) 2 (((h.box hn).set ⟨g,0,none⟩ u0 g0).set ⟨g,1,none⟩ u1 g1) hk u2
structure B3 (W:World) (gs t0:Nat) (c0:Array Value) (t1:Nat) (c1:Array Value) (t2:Nat) (c2:Array Value) (w:World):Prop where
  s:Blk w gs t0 c0
  t:Blk w (gs+1) t1 c1
  r:Blk w (gs+1+1) t2 c2
  q:Below gs W w
theorem B3.call (h:B3 W gs t0 c0 t1 c1 t2 c2 w) (hb:Below w.heap.size w w'):B3 W gs t0 c0 t1 c1 t2 c2 w':=⟨h.s.below hb h.s.lt,h.t.below hb h.t.lt,h.r.below hb h.r.lt,h.q.trans (hb.mono (by have:=h.s.lt;omega))⟩
theorem B3.p0 (h:B3 W gs t0 #[a0,a1] t1 c1 t2 c2 w) (u0 u1:Value):B3 W gs t0 #[u0,u1] t1 c1 t2 c2 ((w.setCell ⟨gs,0,none⟩ u0).setCell ⟨gs,1,none⟩ u1) :=
 ⟨(h.s.set_ 0 u0).set_ 1 u1,(h.t.far (p:=⟨gs,0,none⟩) (by show gs+1≠gs;omega) u0).far (p:=⟨gs,1,none⟩) (by show gs+1≠gs;omega) u1,(h.r.far (p:=⟨gs,0,none⟩) (by show gs+1+1≠gs;omega) u0).far (p:=⟨gs,1,none⟩) (by show gs+1+1≠gs;omega) u1,(h.q.setCell (p:=⟨gs,0,none⟩) Qr u0).setCell (p:=⟨gs,1,none⟩) Qr u1⟩
theorem B3.p1 (h:B3 W gs t0 c0 t1 #[a0,a1] t2 c2 w) (u0 u1:Value):B3 W gs t0 c0 t1 #[u0,u1] t2 c2 ((w.setCell ⟨gs+1,0,none⟩ u0).setCell ⟨gs+1,1,none⟩ u1) :=
 ⟨(h.s.far (p:=⟨gs+1,0,none⟩) (by show gs≠gs+1;omega) u0).far (p:=⟨gs+1,1,none⟩) (by show gs≠gs+1;omega) u1,(h.t.set_ 0 u0).set_ 1 u1,(h.r.far (p:=⟨gs+1,0,none⟩) (by show gs+1+1≠gs+1;omega) u0).far (p:=⟨gs+1,1,none⟩) (by show gs+1+1≠gs+1;omega) u1,(h.q.setCell (p:=⟨gs+1,0,none⟩) (by show gs≤gs+1;omega) u0).setCell (p:=⟨gs+1,1,none⟩) (by show gs≤gs+1;omega) u1⟩
end
def sgz (z z':Int):Int:=if z' < 0 then -z else z
theorem qo {z z':Int}{q:Rat}(h0:z≠0) (hd:z'≠0) (hq:Rat.divInt z z'=q):0 < sgz z' z'∧Rat.divInt (sgz z z') (sgz z' z')=q∧((sgz z z').sign=1∨(sgz z z').sign=-1):=by
 have hs:∀ x:Int,x≠0→x.sign=1∨x.sign=-1:=fun x hx=>by
  rcases sign3 x with h | h | h
  ·exact absurd h hx
  ·exact .inl h
  exact .inr h
 unfold sgz;split
 ·exact ⟨by omega,by rw [hO _ _ hd];exact hq,hs _ (by omega)⟩
 exact ⟨by omega,hq,hs _ h0⟩
theorem sB {y d:Int}{q:Rat}(hs:y.sign=1∨y.sign=-1) (hd:0 < d) (hq:Rat.divInt y d=q) :
 (rd q).num=(wh (sgz y y / ((Nat.gcd y.natAbs d.natAbs:Nat):Int))).mag∧(rd q).den=(wh (d / ((Nat.gcd y.natAbs d.natAbs:Nat):Int))).mag∧(rd q).neg=decide (y.sign < 0):=by
 unfold sgz;rcases hs with h | h
 ·rw [if_neg (by have:=lb h;omega),h];exact qj h hd hq
 rw [if_pos (by have:=jC h;omega),h];exact qn h hd hq
theorem ul (w:World) (b A n c z k) (h:IZ w b A n c z k) (b' A' n' c' z' k') (h':IZ w b' A' n' c' z' k') (q:Rat) (K:Nat) (hd:z'≠0) (hq:Rat.divInt z z'=q) (hs:Sz q K) (hk:k+k'≤300000000) :
 Calls Tryz.prog 228 #[.agg #[.bool b,.slice A n c],.agg #[.bool b',.slice A' n' c']] w (vV w q K):=by
 have HD:=Qh hd;have HQ:=Qh hq;have HS:=Qh hs;obtain ⟨s,hs1⟩:∃ s,z.sign=s:=⟨_,rfl⟩;obtain ⟨s',hs2⟩:∃ s,z'.sign=s:=⟨_,rfl⟩;have H1:=Qh hs1;have H2:=Qh hs2;clear hd hq hs hs1 hs2;go_in;go_upto_region 1 with fail;refine km ?_;intro w1 hw1;have k1:B3 w w.heap.size 194 #[.bool b,.slice A n c] 194 #[.bool b',.slice A' n' c'] 65 #[.bool false,.slice none 0 0,.slice none 0 0] w1:=by rw [hw1];exact ⟨((Blk.new w _ _).alloc _).alloc _,(am _ _ _ (by simp)).alloc _,am _ _ _ (by simp),(((aa w).alloc Qr _).alloc (by simp) _).alloc (by simp <;> omega) _⟩
 replace h:=h.belw k1.q;replace h':=h'.belw k1.q;clear hw1;have y:=k1.s.v2;go_wp2_with fail;(refine (ef _ b A n c z k h s H1.out (by omega)).mono ?_);rintro e w2 ⟨rfl,hb2⟩;replace k1:=k1.call hb2;replace h:=h.belw hb2;replace h':=h'.belw hb2;clear hb2 y;by_cases hz:z=0
 ·obtain rfl:s=0:=by rw [← H1.out,hz];rfl
  have hq0:q=0:=by rw [← HQ.out,hz,Rat.zero_divInt]
  subst hq0;have y:=k1.r.v3;go_wp2_with fail;refine bodyPost_ret (v:=.agg #[.bool false,.slice none 0 0,.slice none 0 0]) (by simp [results,Tryz.results228,go_sem, *] <;> trivial) rfl ?_;exact ⟨false,none,0,0,none,0,0,rfl,QV.zero _ _,((k1.q.setCell (p:=⟨w.heap.size+1+1,0,none⟩) (by show w.heap.size≤w.heap.size+1+1;omega) (.bool false)).setCell (p:=⟨w.heap.size+1+1,1,none⟩) (by show w.heap.size≤w.heap.size+1+1;omega) (.slice none 0 0)).setCell (p:=⟨w.heap.size+1+1,2,none⟩) (by show w.heap.size≤w.heap.size+1+1;omega) (.slice none 0 0)⟩
 obtain ⟨hp,hqq,hsg⟩:=qo hz HD.out HQ.out;have HP:=Qh hp;have HQQ:=Qh hqq;have HSG:=Qh hsg;have u1:(s == 0)=false:=beq_eq_false_iff_ne.2 (by rw [← H1.out];exact fun e=>hz (Int.sign_eq_zero_iff_zero.1 e));have u2:(s=0)=False:=by simpa using u1
 clear hz hp hqq hsg HQ;have y:=k1.t.v2;go_wp2_with fail;(refine (ef _ b' A' n' c' z' k' h' s' H2.out (by omega)).mono ?_);rintro e w3 ⟨rfl,hb3⟩;replace k1:=k1.call hb3;replace h:=h.belw hb3;replace h':=h'.belw hb3;clear hb3 y;obtain ⟨y1,hy1⟩:∃ y,sgz z z'=y:=⟨_,rfl⟩;obtain ⟨y2,hy2⟩:∃ y,sgz z' z'=y:=⟨_,rfl⟩;rw [hy1] at HQQ HSG;rw [hy2] at HP HQQ;have HY1:=Qh hy1;have HY2:=Qh hy2;clear hy1 hy2;go_upto_if 13 with fail;go_cut [] (fun wx=>∃ b8 A8 n8 c8 b9 A9 n9 c9,B3 w w.heap.size 194 #[.bool b8,.slice A8 n8 c8] 194 #[.bool b9,.slice A9 n9 c9] 65 #[.bool false,.slice none 0 0,.slice none 0 0] wx∧IZ wx b8 A8 n8 c8 y1 k∧IZ wx b9 A9 n9 c9 y2 k')
 case first =>
  have y:=k1.s.v2;have y9:=k1.t.v2;by_cases hn:z' < 0
  ·obtain rfl:s'=-1:=by rw [← H2.out];exact Int.sign_eq_neg_one_iff_neg.2 hn
   obtain rfl:-z=y1:=by rw [← HY1.out];exact (if_pos hn).symm
   obtain rfl:-z'=y2:=by rw [← HY2.out];exact (if_pos hn).symm
   clear hn;go_wp2_with fail
   go_region_with (first
    | (go_at_call 190;(with_reducible refine (nr _ b A n c z k ?_ ?_).mono ?_);(first | exact h | exact h.belw (ae (aa _) _) | fail);(omega);rintro e w5 ⟨b5,A5,n5,c5,rfl,h5,hb5⟩;replace hb5:=ag (ae (aa _) 1) hb5;replace h':=h'.belw hb5;replace k1:=k1.call hb5;have y:=k1.s.v2;have y9:=k1.t.v2)
    | (go_at_call 190;(with_reducible refine (nr _ b' A' n' c' z' k' ?_ ?_).mono ?_);(exact h');(omega);rintro e w6 ⟨b6,A6,n6,c6,rfl,h6,hb6⟩;replace h5:=h5.belw hb6;replace k1:=k1.call hb6;have y:=k1.s.v2;have y9:=k1.t.v2))
   all_goals
    go_wp2_with fail;go_meet;exact ⟨_,_,_,_,_,_,_,_,(k1.p0 _ _).p1 _ _,h5.iz.keep ((k1.s.k2 (by decide) _ _).trans ((k1.p0 _ _).t.k2 (by decide) _ _)),h6.iz.keep ((k1.s.k2 (by decide) _ _).trans ((k1.p0 _ _).t.k2 (by decide) _ _))⟩
  have hp:0 < z':=by have:=HD.out;omega
  obtain rfl:s'=1:=by rw [← H2.out];exact Int.sign_eq_one_iff_pos.2 hp
  obtain rfl:z=y1:=by rw [← HY1.out];exact (if_neg hn).symm
  obtain rfl:z'=y2:=by rw [← HY2.out];exact (if_neg hn).symm
  clear hn hp;go_wp2_with fail;go_meet;exact ⟨_,_,_,_,_,_,_,_,k1,h,h'⟩
 case rest =>
  clear k1 h h' HY1 HY2;obtain ⟨b8,A8,n8,c8,b9,A9,n9,c9,k1,h8,h9⟩:=hcut;rename World=>w7;have y:=And.intro k1.s.v2 k1.t.v2;go_wp2_with fail;(refine (tD _ b8 A8 n8 c8 y1 k h8 b9 A9 n9 c9 y2 k' h9 (by omega)).mono ?_);rintro e w8 ⟨b3,A3,n3,c3,rfl,h3,hb8⟩;replace k1:=k1.call hb8;replace h8:=h8.belw hb8;replace h9:=h9.belw hb8;obtain ⟨g,hg⟩:∃ g:Int,((Nat.gcd y1.natAbs y2.natAbs:Nat):Int)=g:=⟨_,rfl⟩;have HG:=Qh hg;rw [hg] at h3;clear hb8 y hg;go_upto_region 6 with fail;refine km ?_;intro w9 hw9;have q9:Below w8.heap.size w8 w9:=by rw [hw9];exact (aa w8).alloc Qr _
  have x9:Blk w9 w8.heap.size 194 #[.bool b3,.slice A3 n3 c3]:=by rw [hw9];exact Blk.new w8 _ _
  replace h8:=h8.belw q9;replace h9:=h9.belw q9;replace h3:=h3.belw q9;have l9:=k1.r.lt;replace k1:=k1.call q9;obtain ⟨gg,hgg⟩:∃ g,w8.heap.size=g:=⟨_,rfl⟩;rw [hgg] at x9 l9 ⊢;clear hw9 q9 hgg;obtain ⟨s1,hs1⟩:∃ s,y1.sign=s:=⟨_,rfl⟩;have H3:=Qh hs1;clear hs1;have y:=k1.s.v2;go_wp2_with fail;(refine (ef _ b8 A8 n8 c8 y1 k h8 s1 H3.out (by omega)).mono ?_);rintro e w10 ⟨rfl,hb10⟩;replace k1:=k1.call hb10;replace h8:=h8.belw hb10;replace h9:=h9.belw hb10;replace h3:=h3.belw hb10;replace x9:=x9.b hb10;clear hb10 y;obtain ⟨y3,hy3⟩:∃ y,sgz y1 y1=y:=⟨_,rfl⟩;have HY3:=Qh hy3;clear hy3;go_upto_if 24 with fail;obtain ⟨m,hm⟩:∃ m,decide (s1 < 0)=m:=⟨_,rfl⟩;rw [hm];have HM:=Qh hm;clear hm;go_cut [] (fun wx=>∃ b4 A4 n4 c4,B3 w w.heap.size 194 #[.bool b4,.slice A4 n4 c4] 194 #[.bool b9,.slice A9 n9 c9] 65 #[.bool false,.slice none 0 0,.slice none 0 0] wx∧Blk wx gg 194 #[.bool b3,.slice A3 n3 c3]∧IZ wx b4 A4 n4 c4 y3 k∧IZ wx b9 A9 n9 c9 y2 k'∧IZ wx b3 A3 n3 c3 g (k+k'))
  case first =>
   have y:=k1.s.v2;by_cases hn:y1 < 0
   ·obtain rfl:m=true:=by rw [← HM.out,← H3.out,Int.sign_eq_neg_one_iff_neg.2 hn];rfl
    obtain rfl:-y1=y3:=by rw [← HY3.out];exact (if_pos hn).symm
    clear hn;go_wp2_with fail;(refine (nr _ b8 A8 n8 c8 y1 k h8 (by omega)).mono ?_);rintro e w11 ⟨b4,A4,n4,c4,rfl,h4,hb11⟩;replace k1:=k1.call hb11;replace x9:=x9.b hb11;replace h9:=h9.belw hb11;replace h3:=h3.belw hb11;have y:=k1.s.v2;go_wp2_with fail;go_meet;have kp:=k1.s.k2 (by decide) (.bool b4) (.slice A4 n4 c4);exact ⟨_,_,_,_,k1.p0 _ _,(x9.far (p:=⟨w.heap.size,0,none⟩) (by show gg≠w.heap.size;omega) _).far (p:=⟨w.heap.size,1,none⟩) (by show gg≠w.heap.size;omega) _,h4.iz.keep kp,h9.keep kp,h3.iz.keep kp⟩
   obtain rfl:y1=y3:=by rw [← HY3.out];exact (if_neg hn).symm
   obtain rfl:m=false:=by rw [← HM.out,← H3.out];exact decide_eq_false (by have:=Int.sign_nonneg_iff.2 (Int.not_lt.1 hn);omega)
   clear hn;go_wp2_with fail;go_meet;exact ⟨_,_,_,_,k1,x9,h8,h9,h3.iz⟩
  case rest =>
   clear k1 x9 h8 h9 h3;obtain ⟨b4,A4,n4,c4,k1,x9,h8,h9,h3⟩:=hcut;rename World=>w12;have g0:g≠0:=by rw [← HG.out];exact uk HP.out
   have y:=And.intro k1.s.v2 x9.v2;go_wp2_with fail;(refine (tE _ b4 A4 n4 c4 y3 k h8 b3 A3 n3 c3 g (k+k') h3 (by omega) g0).mono ?_);rintro e w13 ⟨b5,A5,n5,c5,_,_,_,_,rfl,h5,_,hb13⟩;replace k1:=k1.call hb13;replace x9:=x9.b hb13;replace h9:=h9.belw hb13;replace h3:=h3.belw hb13;clear hb13 y;have y:=k1.s.v2;go_upto_region 10 with fail;refine km ?_;intro w14 hw14;have kp:=k1.s.k2 (by decide) (.bool b5) (.slice A5 n5 c5);have k2:=k1.p0 (.bool b5) (.slice A5 n5 c5);have x10:=(x9.far (p:=⟨w.heap.size,0,none⟩) (by show gg≠w.heap.size;omega) (.bool b5)).far (p:=⟨w.heap.size,1,none⟩) (by show gg≠w.heap.size;omega) (.slice A5 n5 c5);rw [← hw14] at kp k2 x10;replace h5:=h5.keep kp;replace h9:=h9.keep kp;replace h3:=h3.keep kp;clear hw14 kp k1 x9 y;have y:=And.intro k2.t.v2 x10.v2;go_wp2_with fail;(refine (tE _ b9 A9 n9 c9 y2 k' h9 b3 A3 n3 c3 g (k+k') h3 (by omega) g0).mono ?_);rintro e w15 ⟨b6,A6,n6,c6,_,_,_,_,rfl,h6,_,hb15⟩;replace k2:=k2.call hb15;replace h5:=h5.belw hb15;clear hb15 y;have y:=And.intro k2.s.v2 (And.intro k2.t.v2 k2.r.v3);go_wp2_with fail;refine bodyPost_ret (v:=.agg #[.bool m,.slice A5 n5 c5,.slice A6 n6 c6]) (by simp [results,Tryz.results228,go_sem, *] <;> trivial) rfl ?_;clear y;have k3:=k2.p1 (.bool b6) (.slice A6 n6 c6);have kp:=(k2.t.k2 (by decide) (.bool b6) (.slice A6 n6 c6)).trans (k3.r.k3 (by decide) (.bool m) (.slice A5 n5 c5) (.slice A6 n6 c6));obtain ⟨e1,e2,e3⟩:=sB HSG.out HP.out HQQ.out;rw [HG.out] at e1 e2;rw [HY3.out] at e1;rw [H3.out,HM.out] at e3;exact ⟨_,_,_,_,_,_,_,rfl,QV.mk_ (by rw [e1];exact h5.2.1.keep kp) (by rw [e2];exact h6.2.1.keep kp) e3 HS.out,((k3.q.setCell (p:=⟨w.heap.size+1+1,0,none⟩) (by show w.heap.size≤w.heap.size+1+1;omega) _).setCell (p:=⟨w.heap.size+1+1,1,none⟩) (by show w.heap.size≤w.heap.size+1+1;omega) _).setCell (p:=⟨w.heap.size+1+1,2,none⟩) (by show w.heap.size≤w.heap.size+1+1;omega) _⟩

section
variable {w:World}{b:Bool}{A:Option Addr}{n c:Nat}{D:Option Addr}{m e:Nat}{a:RD}{k:Nat}(h:QD w b A n c D m e a k)
include h
theorem vv (h1:n=0) (h2:m=0):a.ok=!b:=by
 have e1:a.num=[]:=List.eq_nil_of_length_eq_zero (by rw [← h.2.1.2.1,h1]);have e2:a.den=[]:=List.eq_nil_of_length_eq_zero (by rw [← h.2.2.1.2.1,h2]);unfold RD.ok;rw [if_pos ⟨e1,e2⟩,h.1]
theorem QD.num_ne (h1:0 < n):a.num≠[]:=by intro e;have:=h.2.1.2.1;rw [e] at this;simp at this;omega
theorem QD.den_ne_ (h1:0 < m):a.den≠[]:=by intro e;have:=h.2.2.1.2.1;rw [e] at this;simp at this;omega
theorem vw (h1:n=0) (h2:0 < m):a.ok=false:=by
 have e1:a.num=[]:=List.eq_nil_of_length_eq_zero (by rw [← h.2.1.2.1,h1]);unfold RD.ok;rw [if_neg (by intro x;exact h.den_ne_ h2 x.2)];simp [e1]
theorem vx (h1:0 < n) (h2:m=0):a.ok=false:=by
 have e2:a.den=[]:=List.eq_nil_of_length_eq_zero (by rw [← h.2.2.1.2.1,h2]);unfold RD.ok;rw [if_neg (by intro x;exact h.num_ne h1 x.1)];simp [e2]
omit h in
theorem tF {l:List Nat}(hl:l≠[]):WD.ok ⟨false,l⟩=ju l:=by unfold WD.ok ju;simp [hl]
theorem um (h1:0 < n) (h2:0 < m):a.ok=(WD.ok ⟨false,a.num⟩ && WD.ok ⟨false,a.den⟩ && Nat.gcd (val a.num) (val a.den) == 1):=by
 have e1:=h.num_ne h1;have e2:=h.den_ne_ h2;unfold RD.ok;have f1:(a.num != [])=true:=bne_iff_ne.2 e1;have f2:(a.den != [])=true:=bne_iff_ne.2 e2;rw [if_neg (by intro x;exact e1 x.1),tF e1,tF e2,f1,f2];rfl
theorem QD.num_z (hk:WD.ok ⟨false,a.num⟩=true):IZ w false A n c (val a.num:Int) k:=⟨_,h.2.1,by simp [WD.z,hk],h.2.2.2.1⟩
theorem QD.den_z (hk:WD.ok ⟨false,a.den⟩=true):IZ w false D m e (val a.den:Int) k:=⟨_,h.2.2.1,by simp [WD.z,hk],h.2.2.2.2⟩
end
theorem sC {x y:Nat}{s:Int}{r:Bool}(hc:dq ((Nat.gcd ((x:Int)).natAbs ((y:Int)).natAbs:Nat)) 1=s) (hr:r=(Nat.gcd x y == 1)):(s == 0)=r:=by
 subst hc hr;simp only [Int.natAbs_natCast];generalize Nat.gcd x y=g;unfold dq;by_cases h1:g=1
 ·subst h1;rfl
 by_cases h2:g < 1
 ·have:g=0:=by omega
  subst this;rfl
 have h3:¬ ((g:Int) < 1):=by omega
 have h4:¬ ((g:Int)=1):=by omega
 simp [h1,h3,h4]
theorem jD (w:World) (b:Bool) (A:Option Addr) (n c:Nat) (v:Bool) (l:List Nat) (h:Wd w A n c l) (hv:WD.ok ⟨b,l⟩=v) (hn:n≤1000000000) :
 Calls Tryz.prog 151 #[.agg #[.bool b,.slice A n c]] w (aE w (.bool v)):=by subst hv;exact fv w b A n c l h (by omega)
theorem sD (w:World) (b A n c z k) (h:IZ w b A n c z k) (b' A' n' c' z' k') (h':IZ w b' A' n' c' z' k') (s:Int) (hs:dq z z'=s) (hk:k+k'≤1000000000) :
 Calls Tryz.prog 152 #[.agg #[.bool b,.slice A n c],.agg #[.bool b',.slice A' n' c']] w (aE w (.int .i64 s)):=by subst hs;exact qi w b A n c z k h b' A' n' c' z' k' h' hk
theorem nt (w:World)  :
 Calls Tryz.prog 154 #[] w (mu w 1 1):=by
 go_in;go_wp2_with fail;(with_reducible refine (vr _ (1) ?_ ?_).mono ?_);(omega);(omega);rintro e w1 ⟨b1,A1,n1,c1,rfl,h1,hb1⟩;have q1:=hb1.q1;have x1a:Blk w1 w.heap.size 194 #[.bool false,.slice none 0 0]:=(am _ _ _ (by simp)).below hb1 (by simp);have bw1:=(aa w).trans (q1.mono (aa w).size);have lw1:=hb1.l1;clear q1;have cx1a:=x1a.c2;have fx1a:=x1a.f2;have lx1a:=eY x1a.lt;go_wp2_with fail;refine bodyPost_ret (v:=.agg #[.bool b1,.slice A1 n1 c1]) (by simp [results,Tryz.results154,go_sem, *] <;> trivial) rfl ?_;exact ⟨b1,A1,n1,c1,rfl,h1.keep (((Kp.refl w1).sb w.heap.size 0 x1a.box (by decide) (.bool b1)).sb w.heap.size 1 (x1a.box.set ⟨w.heap.size,0,none⟩ (.bool b1)) (by decide) (.slice A1 n1 c1)),((bw1.sc w.heap.size 0 (by omega) (.bool b1)).sc w.heap.size 1 (by omega) (.slice A1 n1 c1))⟩
theorem ot (w:World) (b A n c D m e a k) (h:QD w b A n c D m e a k) (hk:k≤300000000) (h0:n=0∨m=0):Calls Tryz.prog 112 #[.agg #[.bool b,.slice A n c,.slice D m e]] w (aE w (.bool a.ok)):=by
 rcases Nat.eq_zero_or_pos n with h1 | h1
 ·rcases Nat.eq_zero_or_pos m with h2 | h2
  ·subst h1 h2
   rw [vv h rfl rfl];go_in;go_wp2;go_ret;exact ⟨rfl,(aa w).alloc Qr _⟩
  rw [vw h h1 h2];have e1:((n:Int) == 0)=true:=by simp [h1]
  have e2:((m:Int) == 0)=false:=by simp;omega
  clear h1 h2 h0 hk h;go_in;go_upto_region 1 with fail;refine km ?_;intro w1 hw1;have x1:Blk w1 w.heap.size 65 #[.bool b,.slice A n c,.slice D m e]:=by rw [hw1];exact Blk.new w _ _
  have bw1:Below w.heap.size w w1:=by rw [hw1];exact (aa w).alloc Qr _
  clear hw1;have y:=x1.v3;go_upto_region 3 with fail;go_cut [3,4] (fun s3 s4 wx=>∃ g3 g4,s3=.pointer (some ⟨g3,0,none⟩)∧s4=.pointer (some ⟨g4,0,none⟩)∧Blk wx g3 194 #[.bool false,.slice A n c]∧Blk wx g4 194 #[.bool false,.slice D m e]∧Blk wx w.heap.size 65 #[.bool b,.slice A n c,.slice D m e]∧Below w1.heap.size w1 wx)
  case first =>
   go_region
   all_goals
    go_wp2_with fail;go_meet
    first
     | exact ⟨_,_,rfl,rfl,((am _ _ _ rfl).alloc _).drew,(am _ _ _ (by simp)).drew,((x1.alloc _).alloc _).drew,((((Below.refl _ _).alloc Qr _).alloc (by simp) _).drew)⟩
     | exact ⟨_,_,rfl,rfl,(am _ _ _ (by simp)).drew,((am _ _ _ rfl).alloc _).drew,((x1.alloc _).alloc _).drew,((((Below.refl _ _).alloc Qr _).alloc (by simp) _).drew)⟩
  case rest =>
   clear x1 y;obtain ⟨g3,g4,rfl,rfl,y3,y4,x1,q1⟩:=hcut;rename World=>w2;replace bw1:=bw1.trans (q1.mono bw1.size);clear q1;have y:=And.intro x1.v3 (And.intro y3.v2 y4.v2);go_wp2;go_ret;exact ⟨rfl,bw1⟩
 have h2:m=0:=by omega
 rw [vx h h1 h2];have e1:((n:Int) == 0)=false:=by simp;omega
 have e2:((m:Int) == 0)=true:=by simp [h2]
 clear h1 h2 h0 hk h;go_in;go_upto_region 1 with fail;refine km ?_;intro w1 hw1;have x1:Blk w1 w.heap.size 65 #[.bool b,.slice A n c,.slice D m e]:=by rw [hw1];exact Blk.new w _ _
 have bw1:Below w.heap.size w w1:=by rw [hw1];exact (aa w).alloc Qr _
 clear hw1;have y:=x1.v3;go_upto_region 3 with fail;go_cut [3,4] (fun s3 s4 wx=>∃ g3 g4,s3=.pointer (some ⟨g3,0,none⟩)∧s4=.pointer (some ⟨g4,0,none⟩)∧Blk wx g3 194 #[.bool false,.slice A n c]∧Blk wx g4 194 #[.bool false,.slice D m e]∧Blk wx w.heap.size 65 #[.bool b,.slice A n c,.slice D m e]∧Below w1.heap.size w1 wx)
 case first =>
  go_region
  all_goals
   go_wp2_with fail;go_meet
   first
    | exact ⟨_,_,rfl,rfl,((am _ _ _ rfl).alloc _).drew,(am _ _ _ (by simp)).drew,((x1.alloc _).alloc _).drew,((((Below.refl _ _).alloc Qr _).alloc (by simp) _).drew)⟩
    | exact ⟨_,_,rfl,rfl,(am _ _ _ (by simp)).drew,((am _ _ _ rfl).alloc _).drew,((x1.alloc _).alloc _).drew,((((Below.refl _ _).alloc Qr _).alloc (by simp) _).drew)⟩
 case rest =>
  clear x1 y;obtain ⟨g3,g4,rfl,rfl,y3,y4,x1,q1⟩:=hcut;rename World=>w2;replace bw1:=bw1.trans (q1.mono bw1.size);clear q1;have y:=And.intro x1.v3 (And.intro y3.v2 y4.v2);go_wp2;go_ret;exact ⟨rfl,bw1⟩
theorem sE (w:World) (b A n c D m e a k) (h:QD w b A n c D m e a k) (hk:k≤300000000):Calls Tryz.prog 112 #[.agg #[.bool b,.slice A n c,.slice D m e]] w (aE w (.bool a.ok)):=by
 by_cases h0:n=0∨m=0
 ·exact ot w b A n c D m e a k h hk h0
 have h1:0 < n:=by omega
 have h2:0 < m:=by omega
 have hnk:=h.2.2.2.1;have hmk:=h.2.2.2.2;have hok:=um h h1 h2;have e1:((n:Int) == 0)=false:=by simp;omega
 have e2:((m:Int) == 0)=false:=by simp;omega
 obtain ⟨u,hu⟩:∃ u,WD.ok ⟨false,a.num⟩=u:=⟨_,rfl⟩;obtain ⟨v,hv⟩:∃ v,WD.ok ⟨false,a.den⟩=v:=⟨_,rfl⟩;rw [hok,hu,hv];have HU:=Qh hu;have HV:=Qh hv;have H:=Qh h;clear h0 h1 h2 hok hu hv h;go_in;go_upto_region 1 with fail;refine km ?_;intro w1 hw1;have x1:Blk w1 w.heap.size 65 #[.bool b,.slice A n c,.slice D m e]:=by rw [hw1];exact Blk.new w _ _
 have bw1:Below w.heap.size w w1:=by rw [hw1];exact (aa w).alloc Qr _
 clear hw1;have y:=x1.v3;go_upto_region 3 with fail;go_cut [3,4] (fun s3 s4 wx=>∃ g3 g4,s3=.pointer (some ⟨g3,0,none⟩)∧s4=.pointer (some ⟨g4,0,none⟩)∧Blk wx g3 194 #[.bool false,.slice A n c]∧Blk wx g4 194 #[.bool false,.slice D m e]∧Blk wx w.heap.size 65 #[.bool b,.slice A n c,.slice D m e]∧Below w1.heap.size w1 wx)
 case first =>
  go_region
  all_goals
   go_wp2_with fail;go_meet
   first
    | exact ⟨_,_,rfl,rfl,((am _ _ _ rfl).alloc _).drew,(am _ _ _ (by simp)).drew,((x1.alloc _).alloc _).drew,((((Below.refl _ _).alloc Qr _).alloc (by simp) _).drew)⟩
    | exact ⟨_,_,rfl,rfl,(am _ _ _ (by simp)).drew,((am _ _ _ rfl).alloc _).drew,((x1.alloc _).alloc _).drew,((((Below.refl _ _).alloc Qr _).alloc (by simp) _).drew)⟩
 case rest =>
  clear x1 y;obtain ⟨g3,g4,rfl,rfl,y3,y4,x1,q1⟩:=hcut;rename World=>w2;replace bw1:=bw1.trans (q1.mono bw1.size);clear q1;have y:=And.intro x1.v3 (And.intro y3.v2 y4.v2);go_wp2_with fail;(refine (jD _ false A n c u a.num (H.out.2.1.belw bw1) HU.out (by omega)).mono ?_);rintro e w3 ⟨rfl,hb3⟩;replace bw1:=bw1.trans (hb3.mono bw1.size);replace y3:=y3.b hb3;replace y4:=y4.b hb3;clear hb3 y x1;cases u
  ·go_wp2
   go_ret;exact ⟨rfl,bw1⟩
  have y:=And.intro y3.v2 y4.v2;go_wp2_with fail;(refine (jD _ false D m e v a.den (H.out.2.2.1.belw bw1) HV.out (by omega)).mono ?_);rintro e' w4 ⟨rfl,hb4⟩;replace bw1:=bw1.trans (hb4.mono bw1.size);replace y3:=y3.b hb4;replace y4:=y4.b hb4;clear hb4 y;cases v
  ·go_wp2
   go_ret;exact ⟨rfl,bw1⟩
  have hN:=(H.out.num_z HU.out).belw bw1;have hD:=(H.out.den_z HV.out).belw bw1;have y:=And.intro y3.v2 y4.v2;go_wp2_with fail;(refine (tD _ false A n c _ k hN false D m e _ k hD (by omega)).mono ?_);rintro e' w5 ⟨b9,A9,n9,c9,rfl,h9,hb5⟩;replace bw1:=bw1.trans (hb5.mono bw1.size);clear hb5 y hN hD y3 y4;go_wp2_with fail;(refine (nt _).mono ?_);rintro e' w6 ⟨b8,A8,n8,c8,rfl,h8,hb6⟩;replace bw1:=bw1.trans (hb6.mono bw1.size);replace h9:=h9.belw hb6;clear hb6;obtain ⟨s,hs⟩:∃ s,dq ((Nat.gcd ((val a.num:Int)).natAbs ((val a.den:Int)).natAbs:Nat)) 1=s:=⟨_,rfl⟩;have HS:=Qh hs;clear hs;go_wp2_with fail;(refine (sD _ b9 A9 n9 c9 _ (k+k) h9.iz b8 A8 n8 c8 1 1 h8.iz s HS.out (by omega)).mono ?_);rintro e' w7 ⟨rfl,hb7⟩;go_wp2;go_ret;exact dn (sC HS.out rfl) (bw1.trans (hb7.mono bw1.size))

theorem cX {w:World}{base:Nat}{e:TypeId}{size:Nat}{v:Value}{n:Nat}{xs:List Value}(h:w.ownsRow base e size v n xs):∀ b,v.ownBlock=some b→base≤b:=by
 intro b hb;rcases h.2 with ⟨rfl,_⟩ | ⟨g,c,cur,rfl,h1,_⟩
 ·simp [Value.ownBlock] at hb
 simp [Value.ownBlock] at hb;omega

def OwS (w:World) (B g n cap:Nat) (l:List Nat):Prop:=w.ownsRow B 58 1 (.slice (some ⟨g,0,none⟩) n cap) n (words l)∧Wds l
theorem OwS.len {w:World}{B g n cap:Nat}{l:List Nat}(h:OwS w B g n cap l):n=l.length:=by have:=h.1.1;rw [cC] at this;omega
theorem OwS.base {w:World}{B g n cap:Nat}{l:List Nat}(h:OwS w B g n cap l):B≤g:=cX h.1 g rfl
theorem OwS.toWd {w:World}{B g n cap:Nat}{l:List Nat}(h:OwS w B g n cap l):Wd w (some ⟨g,0,none⟩) n cap l:=Wd.of_own h.1 h.2
theorem OwS.cell {w:World}{B g n cap:Nat}{l:List Nat}(h:OwS w B g n cap l) (i:Nat) (hi:i < n):w.cell? ⟨g,i,none⟩=some (.int .u32 (wd l i:Nat)):=by
 rw [h.1.cellAt i (by omega)];exact gk (by rw [← h.len];exact hi)
theorem OwS.frozen {w:World}{B g n cap:Nat}{l:List Nat}(h:OwS w B g n cap l) (i:Nat):w.frozen? ⟨g,i,none⟩=false:=h.1.frozenAt i
theorem OwS.lt {w:World}{B g n cap:Nat}{l:List Nat}(h:OwS w B g n cap l):g < w.heap.size:=by
 rcases h.1.2 with ⟨e,_⟩ | ⟨g',c',cur,e,_,hg,_⟩
 ·cases e
 injection e with e;injection e with e;injection e with e;subst e;exact lt_of_block hg
theorem OwS.cap {w:World}{B g n cap:Nat}{l:List Nat}(h:OwS w B g n cap l):n≤cap:=h.toWd.2.2.1
theorem OwS.cut {w:World}{B g n cap:Nat}{l:List Nat}(h:OwS w B g n cap l) {k:Nat}(hk:k≤n):OwS w B g k cap (l.take k):=by
 have hl:=h.len;refine ⟨⟨by rw [cC,List.length_take];omega,?_⟩,Wds.take h.2 k⟩;rcases h.1.2 with ⟨e,_⟩ | ⟨g',c',cur,e,hb,hg,hc,hm,hs,ht⟩
 ·cases e
 injection e with e1 _ e2;injection e1 with e1;injection e1 with e1;subst e1 e2;refine .inr ⟨g,cap,cur,rfl,hb,hg,by omega,hm,hs,?_⟩;have:words (l.take k)=(words l).take k:=by simp [words,List.map_take]
 rw [this,← ht,List.take_take];congr 1;omega
theorem ox (l:List Nat) (i x:Nat):(words l).set i (.int .u32 (x:Nat))=words (l.set i x):=by simp [words,List.map_set]
theorem OwS.set {w:World}{B g n cap:Nat}{l:List Nat}(h:OwS w B g n cap l) (i:Nat) {x:Nat}(hx:x < 4294967296) {z:Int}(hz:z=x):OwS (w.setCell ⟨g,i,none⟩ (.int .u32 z)) B g n cap (l.set i x):=by
 subst hz;refine ⟨?_,wds_set h.2 i hx⟩;rw [← ox];exact (h.1.stored i _).1
def fh (g:Nat) (w w':World):Prop:=Below g w w'∧w'.heap.size=w.heap.size∧∀ b,b≠g→w'.heap[b]?=w.heap[b]?
theorem fh.refl (g:Nat) (w:World):fh g w w:=⟨Below.refl _ _,rfl,fun _ _=>rfl⟩
theorem fh.set {g:Nat}{w w':World}(h:fh g w w') (i:Nat) (u:Value):fh g w (w'.setCell ⟨g,i,none⟩ u) :=
 ⟨h.1.setCell (p:=⟨g,i,none⟩) Qr u,by rw [← h.2.1];simp [World.setCell],fun b hb=>(Below.heap_setCell w' ⟨g,i,none⟩ u b hb).trans (h.2.2 b hb)⟩
theorem fh.trans {g:Nat}{a b c:World}(h:fh g a b) (k:fh g b c):fh g a c:=⟨h.1.trans k.1,k.2.1.trans h.2.1,fun x hx=>(k.2.2 x hx).trans (h.2.2 x hx)⟩
theorem fh.own {g:Nat}{w w':World}(h:fh g w w') {B g' n cap:Nat}{l:List Nat}(k:OwS w B g' n cap l) (hg:g'≠g):OwS w' B g' n cap l:=by
 refine ⟨⟨k.1.1,?_⟩,k.2⟩;rcases k.1.2 with ⟨e,_⟩ | ⟨g1,c',cur,e,hb,hgg,r⟩
 ·cases e
 have e':=e;injection e with e1 _ e2;injection e1 with e1;injection e1 with e1;subst e1;exact .inr ⟨g',c',cur,e',hb,(h.2.2 _ hg).trans hgg,r⟩
theorem fh.wd {g:Nat}{w w':World}(h:fh g w w') {g' o n c:Nat}{l:List Nat}(k:Wd w (some ⟨g',o,none⟩) n c l) (hg:g'≠g):Wd w' (some ⟨g',o,none⟩) n c l:=by
 refine ⟨k.1,k.2.1,k.2.2.1,fun hn=>?_⟩;obtain ⟨g1,o1,cur,fr,e,hb,hc⟩:=k.2.2.2 hn;have e':=e;injection e with e1;injection e1 with e1;subst e1;exact ⟨_,o1,cur,fr,e',hb.same (h.2.2 _ hg),hc⟩

def fi (l L:List Nat) (j:Nat):Prop:=Wds L∧L.length=l.length∧(∀ i,j≤i→wd L i=wd l i)∧2 * Sm (wd L) j+wd l 0 % 2=Sm (wd l) j+wd l j % 2 * 4294967296 ^ j
theorem fi.start {l:List Nat}(h:Wds l):fi l l 0:=⟨h,rfl,fun _ _=>rfl,by simp [Sm]⟩
theorem fi.step {l L:List Nat}{j:Nat}(h:fi l L j) (hj:j < l.length) (hl:Wds l):fi l (L.set j (wd l j / 2+(wd l (j+1) % 2) * 2147483648)) (j+1):=by
 obtain ⟨h1,h2,h3,h4⟩:=h;have hx:=bL hl j;refine ⟨wds_set h1 j (by omega),by rw [List.length_set];exact h2,fun i hi=>?_,?_⟩
 ·rw [bA,if_neg (by omega)];exact h3 i (by omega)
 rw [bD _ _ _ (by omega),Sm];generalize wd l j=x at *;generalize wd l (j+1)=y at *;generalize wd l 0=z at *;rw [Nat.pow_succ]
 have e:2 * ((x / 2+y % 2 * 2147483648) * 4294967296 ^ j)+x % 2 * 4294967296 ^ j=x * 4294967296 ^ j+y % 2 * (4294967296 ^ j * 4294967296):=by
  have hx2:x=2 * (x / 2)+x % 2:=by omega
  generalize x / 2=p at *;generalize x % 2=r at *;subst hx2;generalize 4294967296 ^ j=P
  grind
 omega
theorem fi.fin {l L:List Nat}(h:fi l L l.length):val L=val l / 2:=by
 obtain ⟨h1,h2,h3,h4⟩:=h;rw [bi L (by omega),bi l Qr,fu Qr] at h4;omega

def Two (w wr:World) (N:Nat) (va vb:Value) (x y:Nat):Prop:=∃ ga na ca gb nb cb,va=.slice (some ⟨ga,0,none⟩) na ca∧vb=.slice (some ⟨gb,0,none⟩) nb cb∧OwS wr w.heap.size ga na ca (aB x)∧OwS wr w.heap.size gb nb cb (aB y)∧ga≠gb∧Below w.heap.size w wr∧x < 4294967296 ^ N∧y < 4294967296 ^ N
theorem Two.left {w wr w1:World}{N ga na ca gb nb cb x y u k:Nat}(hT:Two w wr N (.slice (some ⟨ga,0,none⟩) na ca) (.slice (some ⟨gb,0,none⟩) nb cb) x y) (ho:OwS w1 w.heap.size ga k ca (aB u)) (hon:fh ga wr w1) (hu:u≤x):Two w w1 N (.slice (some ⟨ga,0,none⟩) k ca) (.slice (some ⟨gb,0,none⟩) nb cb) u y:=by
 obtain ⟨ga',na',ca',gb',nb',cb',e1,e2,oa,ob,hg,hbl,hxN,hyN⟩:=hT;injection e1 with e1 e3 e4;injection e1 with e1;injection e1 with e1;injection e2 with e2 e5 e6;injection e2 with e2;injection e2 with e2;subst e1 e2 e3 e4 e5 e6;exact ⟨ga,k,ca,gb,nb,cb,rfl,rfl,ho,hon.own ob (Ne.symm hg),hg,hbl.trans (hon.1.mono oa.base),Nat.lt_of_le_of_lt hu hxN,hyN⟩
theorem Two.at_ {w wr:World}{N ga na ca gb nb cb x y:Nat}(hT:Two w wr N (.slice (some ⟨ga,0,none⟩) na ca) (.slice (some ⟨gb,0,none⟩) nb cb) x y):OwS wr w.heap.size ga na ca (aB x)∧OwS wr w.heap.size gb nb cb (aB y)∧ga≠gb∧Below w.heap.size w wr∧x < 4294967296 ^ N∧y < 4294967296 ^ N:=by
 obtain ⟨ga',na',ca',gb',nb',cb',e1,e2,h⟩:=hT;injection e1 with e1 e3 e4;injection e1 with e1;injection e1 with e1;injection e2 with e2 e5 e6;injection e2 with e2;injection e2 with e2;subst e1 e2 e3 e4 e5 e6;exact h
theorem OwS.belw {w w':World}{B g n cap:Nat}{l:List Nat}(h:OwS w B g n cap l) (hb:Below w.heap.size w w'):OwS w' B g n cap l:=by
 refine ⟨⟨h.1.1,?_⟩,h.2⟩;rcases h.1.2 with ⟨e,_⟩ | ⟨g',cap',cur,e,hb1,hgg,r⟩
 ·cases e
 exact .inr ⟨g',cap',cur,e,hb1,(hb.block g' (lt_of_block hgg)).trans hgg,r⟩
theorem Two.belw {w wr w1:World}{N:Nat}{va vb:Value}{x y:Nat}(hT:Two w wr N va vb x y) (hb:Below wr.heap.size wr w1):Two w w1 N va vb x y:=by
 obtain ⟨ga,na,ca,gb,nb,cb,e1,e2,oa,ob,hg,hbl,hxN,hyN⟩:=hT;exact ⟨ga,na,ca,gb,nb,cb,e1,e2,oa.belw hb,ob.belw hb,hg,hbl.trans (hb.mono hbl.size),hxN,hyN⟩
theorem Two.form {w wr:World}{N:Nat}{va vb:Value}{x y:Nat}(hT:Two w wr N va vb x y):∃ ga na ca gb nb cb,va=.slice (some ⟨ga,0,none⟩) na ca∧vb=.slice (some ⟨gb,0,none⟩) nb cb:=by
 obtain ⟨ga,na,ca,gb,nb,cb,e1,e2,_⟩:=hT;exact ⟨ga,na,ca,gb,nb,cb,e1,e2⟩

section
variable {w:World}{b:Bool}{A:Option Addr}{n c:Nat}{D:Option Addr}{m e:Nat}{a:RD}{k:Nat}
theorem vy (h:a.ok=false∨a.num=[]):a.q.num=0∧(a.q.den:Int)=1:=by
 have e1:(a.ok && a.num != [])=false:=by rcases h with h | h <;> simp [h]
 have e2:a.q=0:=by unfold RD.q RD.n RD.d;rw [e1];simp
 rw [e2];exact ⟨rfl,rfl⟩
theorem vX (hn:Wds a.num) (hd:Wds a.den) (ho:a.ok=true) (h0:a.num≠[]):a.num=(wh a.q.num).mag∧a.neg=(wh a.q.num).neg∧a.den=(wh (a.q.den:Int)).mag:=by
 have h1:=kR hn hd ho
 have h2:a.q.num≠0:=by
  intro e;have:(rd a.q).num=[]:=by unfold rd;simp [e,ax]
  rw [h1] at this;exact h0 this
 have h3:(rd a.q).den=aB a.q.den:=by unfold rd;simp [h2]
 refine ⟨?_,?_,?_⟩
 ·have:(rd a.q).num=aB a.q.num.natAbs:=rfl
  rw [h1] at this;exact this
 ·have:(rd a.q).neg=decide (a.q.num < 0):=rfl
  rw [h1] at this;exact this
 rw [h1] at h3;exact h3
theorem qp (h:QD w b A n c D m e a k) (ho:a.ok=true) (h0:a.num≠[]):0 < m:=by
 rcases Nat.eq_zero_or_pos m with h1 | h1
 ·have e2:a.den=[]:=List.eq_nil_of_length_eq_zero (by rw [← h.2.2.1.2.1,h1])
  unfold RD.ok at ho;rw [if_neg (by intro x;exact h0 x.1)] at ho;simp [e2] at ho
 exact h1
end
abbrev bE (G g2 g3:Nat) (v0 v1:Value) (W0 W:World):Prop:=((∀ b o,b < G→b≠g2→b≠g3→W.cell? ⟨b,o,none⟩=W0.cell? ⟨b,o,none⟩)∧(∀ b o,b < G→W.frozen? ⟨b,o,none⟩=W0.frozen? ⟨b,o,none⟩))∧G≤W.heap.size∧W.cell? ⟨g2,0,none⟩=some v0∧W.cell? ⟨g2,1,none⟩=some v1
theorem bE.of {G g2 g3:Nat}{v0 v1:Value}{W0 W:World}(h:G≤W0.heap.size) (hb:Below W0.heap.size W0 W) (hg:g2 < W0.heap.size) (h0:W0.cell? ⟨g2,0,none⟩=some v0) (h1:W0.cell? ⟨g2,1,none⟩=some v1):bE G g2 g3 v0 v1 W0 W :=
 ⟨⟨fun b o hlt _ _=>(bM hb).1 b o (Nat.lt_of_lt_of_le hlt h),fun b o hlt=>(bM hb).2 b o (Nat.lt_of_lt_of_le hlt h)⟩,Nat.le_trans h hb.size,((bM hb).1 _ _ hg).trans h0,((bM hb).1 _ _ hg).trans h1⟩
theorem fc {w:World}{p:Addr}{u:Value}(v:Value) (h:w.cell? p=some u) (hp:p.spot=none):(w.setCell p v).cell? p=some v:=by
 obtain ⟨b,o,s⟩:=p;simp only at hp;subst hp;unfold World.cell? at h ⊢;simp only [World.setCell,Array.getElem?_modify,if_true] at h ⊢
 cases hh:w.heap[b]? with
 | none=>rw [hh] at h;simp at h
 | some ob =>
  rw [hh] at h;cases ob <;> simp_all;obtain ⟨hl,_⟩:=Array.getElem?_eq_some_iff.1 h;simp [hl]
theorem bE.set2 {G g2 g3:Nat}{v0 v1:Value}{W0 W:World}(h:bE G g2 g3 v0 v1 W0 W) {i:Nat}{u:Value}(hi:(i=0∧u=v0)∨(i=1∧u=v1)):bE G g2 g3 v0 v1 W0 (W.setCell ⟨g2,i,none⟩ u):=by
 refine ⟨⟨fun b o hlt hne h3=>?_,fun b o hlt=>?_⟩,?_,?_,?_⟩
 ·rw [← h.1.1 b o hlt hne h3];unfold World.cell?;rw [Below.heap_setCell _ _ _ b hne]
 ·rw [← h.1.2 b o hlt];exact World.frozen?_setCell ..
 ·have:=h.2.1;simp [World.setCell];exact this
 ·rcases hi with ⟨rfl,rfl⟩ | ⟨rfl,rfl⟩
  ·exact fc _ h.2.2.1 rfl
  rw [World.cell?_setCell_other _ _ _ _ (by simp)];exact h.2.2.1
 rcases hi with ⟨rfl,rfl⟩ | ⟨rfl,rfl⟩
 ·rw [World.cell?_setCell_other _ _ _ _ (by simp)];exact h.2.2.2
 exact fc _ h.2.2.2 rfl
theorem bE.set3 {G g2 g3:Nat}{v0 v1:Value}{W0 W:World}(h:bE G g2 g3 v0 v1 W0 W) {i:Nat}{u:Value}(hg:g2≠g3):bE G g2 g3 v0 v1 W0 (W.setCell ⟨g3,i,none⟩ u):=by
 refine ⟨⟨fun b o hlt hne h3=>?_,fun b o hlt=>?_⟩,?_,?_,?_⟩
 ·rw [← h.1.1 b o hlt hne h3];unfold World.cell?;rw [Below.heap_setCell _ _ _ b h3]
 ·rw [← h.1.2 b o hlt];exact World.frozen?_setCell ..
 ·have:=h.2.1;simp [World.setCell];exact this
 ·rw [World.cell?_setCell_other _ _ _ _ (by simp <;> omega)];exact h.2.2.1
 rw [World.cell?_setCell_other _ _ _ _ (by simp <;> omega)];exact h.2.2.2
theorem eK (w:World) (b:Bool) (A:Option Addr) (n c:Nat) (D:Option Addr) (m e:Nat) (a:RD) (k:Nat) (v:Bool) (h:QD w b A n c D m e a k) (hk:k≤300000000) (hv:a.ok=v) :
 Calls Tryz.prog 112 #[.agg #[.bool b,.slice A n c,.slice D m e]] w (aE w (.bool v)):=by subst hv;exact sE w b A n c D m e a k h hk
theorem B3.p2 {W w:World}{gs t0 t1 t2:Nat}{c0 c1:Array Value}{a0 a1:Value}(h:B3 W gs t0 c0 t1 c1 t2 #[a0,a1] w) (u0 u1:Value):B3 W gs t0 c0 t1 c1 t2 #[u0,u1] ((w.setCell ⟨gs+1+1,0,none⟩ u0).setCell ⟨gs+1+1,1,none⟩ u1) :=
 ⟨(h.s.far (p:=⟨gs+1+1,0,none⟩) (by show gs≠gs+1+1;omega) u0).far (p:=⟨gs+1+1,1,none⟩) (by show gs≠gs+1+1;omega) u1,(h.t.far (p:=⟨gs+1+1,0,none⟩) (by show gs+1≠gs+1+1;omega) u0).far (p:=⟨gs+1+1,1,none⟩) (by show gs+1≠gs+1+1;omega) u1,(h.r.set_ 0 u0).set_ 1 u1,(h.q.setCell (p:=⟨gs+1+1,0,none⟩) (by show gs≤gs+1+1;omega) u0).setCell (p:=⟨gs+1+1,1,none⟩) (by show gs≤gs+1+1;omega) u1⟩
theorem jE (w:World) (b A n c D m e a k) (h:QD w b A n c D m e a k) (h0:0 < k) (hk:k≤300000000) (ho:a.ok=false∨n=0):Calls Tryz.prog 181 #[.agg #[.bool b,.slice A n c,.slice D m e]] w (qh w a.q.num a.q.den k):=by
 obtain ⟨v,hv⟩:∃ v,a.ok=v:=⟨_,rfl⟩;have hq:a.q.num=0∧(a.q.den:Int)=1:=vy (ho.imp id fun hn=>List.eq_nil_of_length_eq_zero (by rw [← h.2.1.2.1,hn]));rw [hq.1,hq.2];have en:v=true→((n:Int) == 0)=true:=fun e=>by rcases ho with h | h;rw [h] at hv;rw [← hv] at e;cases e;simp [h]
 have HV:=Qh hv;have H:=Qh h;clear hq hv ho h;go_in;go_upto_region 1 with fail;refine km ?_;intro w1 hw1;have k1:B3 w w.heap.size 65 #[.bool b,.slice A n c,.slice D m e] 194 #[.bool false,.slice none 0 0] 194 #[.bool false,.slice none 0 0] w1:=by rw [hw1];exact ⟨((Blk.new w _ _).alloc _).alloc _,(am _ _ _ (by simp)).alloc _,am _ _ _ (by simp),(((aa w).alloc Qr _).alloc (by simp) _).alloc (by simp <;> omega) _⟩
 clear hw1;have y:=k1.s.v3;go_wp2_with fail;(refine (eK _ b A n c D m e a k v (H.out.belw k1.q) hk HV.out).mono ?_);rintro e w2 ⟨rfl,hb2⟩;replace k1:=k1.call hb2;clear hb2 y;have y:=k1.s.v3;have key:∀ {P:Prop},(v=false→P)→(v=true→((n:Int) == 0)=true→P)→P:=fun h1 h2=>by cases v;exact h1 rfl;exact h2 rfl (en rfl)
 clear en;refine key (fun hv=>?_) (fun hv e1=>?_)
 all_goals
  subst hv;go_wp2_with fail;(refine (nt _).mono ?_);rintro e w3 ⟨b2,A2,n2,c2,rfl,h2,hb3⟩;replace k1:=k1.call hb3;clear hb3 y;have y:=And.intro k1.t.v2 k1.r.v2;go_wp2_with fail;refine bodyPost_ret (v:=.tuple #[.agg #[.bool false,.slice none 0 0],.agg #[.bool b2,.slice A2 n2 c2]]) (by simp [results,Tryz.results181,go_sem, *] <;> trivial) rfl ?_;have k2:=k1.p1 (.bool false) (.slice none 0 0);exact ⟨_,_,_,_,_,_,_,_,rfl,IV.zero _ _,(h2.keep ((k1.t.k2 (by decide) _ _).trans (k2.r.k2 (by decide) _ _))).mono (by omega),(k2.p2 _ _).q⟩
theorem oy (w:World) (b A n c D m e a k) (h:QD w b A n c D m e a k) (h0:0 < k) (hk:k≤300000000) (ho:a.ok=true) (hn:a.num≠[]) :
 Calls Tryz.prog 181 #[.agg #[.bool b,.slice A n c,.slice D m e]] w (qh w a.q.num a.q.den k):=by
 have HK:=Qh hk;have HO:=Qh ho;obtain ⟨e1,e2,e3⟩:=vX h.2.1.1 h.2.2.1.1 ho hn;have HE:=Qh (And.intro e1 (And.intro e2 e3));have hnp:0 < n:=by rcases Nat.eq_zero_or_pos n with h1 | h1;exact absurd (List.eq_nil_of_length_eq_zero (by rw [← h.2.1.2.1,h1])) hn;exact h1
 have hmp:0 < m:=qp h ho hn;have en:((n:Int) == 0)=false:=by simp;omega
 have hkn:n≤300000000:=Nat.le_trans h.2.2.2.1 hk;have hkm:m≤300000000:=Nat.le_trans h.2.2.2.2 hk;obtain ⟨i0,hi0,hz0,hz1,hz2⟩:=info_parts ie;obtain ⟨gA,oA,eA,hlA,_⟩:=h.2.1.at2 hnp;obtain ⟨gD,oD,eD,hlD,_⟩:=h.2.2.1.at2 hmp;subst eA eD;clear ho hn e1 e2 e3 hk;go_in;go_wp2_with fail;(with_reducible refine (eK _ b (some ⟨gA,oA,none⟩) n c (some ⟨gD,oD,none⟩) m e a k true ?_ ?_ ?_).mono ?_);(exact h.belw (((((Below.refl _ _).alloc Qr _).alloc (by simp) _).alloc (by simp <;> omega) _)));(exact HK.out);(exact HO.out);rintro e w1 ⟨rfl,hb1⟩;have q1:=hb1.q3;replace h:=h.belw q1;have x1a:Blk w1 w.heap.size 65 #[.bool b,.slice (some ⟨gA,oA,none⟩) n c,.slice (some ⟨gD,oD,none⟩) m e]:=(((am _ _ _ (by simp)).alloc _).alloc _).below hb1 (by simp <;> omega);have x1b:=((am _ _ _ (g:=w.heap.size+1) (by simp)).alloc _).below hb1 (by simp <;> omega);have x1c:=(am _ _ _ (g:=w.heap.size+1+1) (by simp)).below hb1 (by simp);have bw1:=(aa w).trans (q1.mono (aa w).size);have lw1:=hb1.l3;clear q1;obtain ⟨cx1aa,cx1ab,cx1ac⟩:=x1a.c3;obtain ⟨lx1aa,lx1ab,lx1ac,lx1ad⟩:=eY x1a.lt;have cx1b:=x1b.c2;have fx1b:=x1b.f2;have lx1b:=iX x1b.lt;obtain ⟨cx1ca,cx1cb⟩:=x1c.c2;obtain ⟨fx1ca,fx1cb⟩:=x1c.f2;obtain ⟨lx1ca,lx1cb,lx1cc,lx1cd⟩:=sk x1c.lt;go_wp2_with fail;have howna:=World.ownsRow_lit (e:=58) (size:=1) w1 #[] 0 Qr (by simp [maxLen]) rfl;have hnewsa:=((h.2.1).keep ((Kp.refl w1).alloc (.cells #[] 58))).news (by omega) Qr;have hnla:(words (a.num.take n)).length=n * 1:=by rw [cC,List.length_take];have:=(h.2.1).2.1;omega
 have HOa:=Qh howna;have HNa:=Qh hnewsa;have HNLa:=Qh hnla;clear howna hnewsa hnla;have nf0:¬ w.heap.size=w.heap.size+1:=by omega
 have nf2:¬ w.heap.size+1+1=w.heap.size+1:=by omega
 have nfa:¬ w1.heap.size=w.heap.size+1:=by have:=x1b.lt;omega
 go_region_held3 (fun w'=>SeesX w1.heap.size (w.heap.size+1) w1 w') (first | exact SeesX.of Qr (ae (aa _) 1) | exact SeesX.of Qr ((ae (aa _) 1).alloc Qr _) | exact SeesX.of Qr (((aa _).alloc Qr _).drew) | exact SeesX.of Qr (by assumption) | exact SeesX.set (SeesX.of Qr (by assumption)) | exact SeesX.set (SeesX.set (SeesX.of Qr (by assumption)))) ((refine step_append_lies _ rfl _ _ _ rfl w1.heap.size 58 i0 (.int .u32 0) 1 4 Tryz.underlying63 hi0 hz0 hz1 hz2 rfl (by omega) _ 0 [] rfl (by first | exact HOa.out | exact HOa.out.drew) ⟨gA,oA,none⟩ n c (words (a.num.take n)) rfl HNLa.out HNa.out (gl _) (by omega) (by unfold maxLen;omega) (by omega) (by simp) (w1.heap.size+1) (by simp) ?_;intro ga capa va howna hgrowa hata hlta;have qa:Below w1.heap.size w1 va:=(((Below.refl _ _).alloc Qr _).drew).grown hgrowa (by simp) (fun b hb=>Nat.le_of_eq (Option.some.inj hb));have y1:Blk va (w.heap.size+1) 194 #[.bool false,.slice none 0 0]:=x1b.below qa x1b.lt;obtain ⟨cy10,cy11⟩:=y1.c2;obtain ⟨fy10,fy11⟩:=y1.f2));simp only [Nat.zero_add,List.nil_append] at howna
 have hwa:Wd va (some ⟨ga,0,none⟩) n capa a.num:=by
  have x:=Wd.of_own howna (Wds.take (h.2.1).1 n);rwa [List.take_of_length_le (Nat.le_of_eq (h.2.1).2.1.symm)] at x
 clear howna hgrowa hata HOa HNa HNLa;clear cx1aa cx1ab cx1ac lx1aa lx1ab lx1ac lx1ad cx1b fx1b lx1b cx1ca fx1ca cx1cb fx1cb lx1ca lx1cb lx1cc lx1cd;clear cy10 cy11 fy10 fy11 nfa nf0 nf2;replace x1a:=x1a.b qa;replace x1c:=x1c.b qa;replace h:=h.belw qa;have bwa:Below w.heap.size w va:=bw1.trans (qa.mono bw1.size);have lwa:w1.heap.size≤va.heap.size:=qa.size;clear x1b;go_wp2_with fail;have p5:=(((Kp.refl va).sb (w.heap.size+1) 0 y1.box (by decide) (.bool b)).sb (w.heap.size+1) 1 (y1.box.set ⟨w.heap.size+1,0,none⟩ (.bool b)) (by decide) (.slice (some ⟨ga,0,none⟩) n capa));have bw5:=((bwa.sc (w.heap.size+1) 0 (by omega) (.bool b)).sc (w.heap.size+1) 1 (by omega) (.slice (some ⟨ga,0,none⟩) n capa));replace x1a:=((x1a.fr (w.heap.size+1) 0 (by omega) (.bool b)).fr (w.heap.size+1) 1 (by omega) (.slice (some ⟨ga,0,none⟩) n capa));replace y1:Blk ((va.setCell ⟨w.heap.size+1,0,none⟩ (.bool b)).setCell ⟨w.heap.size+1,1,none⟩ (.slice (some ⟨ga,0,none⟩) n capa)) (w.heap.size+1) 194 #[.bool b,.slice (some ⟨ga,0,none⟩) n capa]:=((y1.set_at 0 (.bool b) #[.bool b,.slice none 0 0] (by simp)).set_at 1 (.slice (some ⟨ga,0,none⟩) n capa) #[.bool b,.slice (some ⟨ga,0,none⟩) n capa] (by simp));replace x1c:=((x1c.fr (w.heap.size+1) 0 (by omega) (.bool b)).fr (w.heap.size+1) 1 (by omega) (.slice (some ⟨ga,0,none⟩) n capa));have lw5:va.heap.size+0≤((va.setCell ⟨w.heap.size+1,0,none⟩ (.bool b)).setCell ⟨w.heap.size+1,1,none⟩ (.slice (some ⟨ga,0,none⟩) n capa)).heap.size:=by simp
 generalize hE5:((va.setCell ⟨w.heap.size+1,0,none⟩ (.bool b)).setCell ⟨w.heap.size+1,1,none⟩ (.slice (some ⟨ga,0,none⟩) n capa))=w5 at p5 bw5 lw5 x1a y1 x1c ⊢;clear hE5;replace h:=h.keep p5;replace hwa:=hwa.keep p5;obtain ⟨cx1aa,cx1ab,cx1ac⟩:=x1a.c3;obtain ⟨lx1aa,lx1ab,lx1ac,lx1ad⟩:=eY x1a.lt;obtain ⟨cy1_0,cy1_1⟩:=y1.c2;have fy1:=y1.f2;have ly1:=iX y1.lt;obtain ⟨cx1ca,cx1cb⟩:=x1c.c2;obtain ⟨fx1ca,fx1cb⟩:=x1c.f2;obtain ⟨lx1ca,lx1cb,lx1cc,lx1cd⟩:=sk x1c.lt;have hownd:=World.ownsRow_lit (e:=58) (size:=1) w5 #[] 0 Qr (by simp [maxLen]) rfl;have hnewsd:=((h.2.2.1).keep ((Kp.refl w5).alloc (.cells #[] 58))).news (by omega) Qr;have hnld:(words (a.den.take m)).length=m * 1:=by rw [cC,List.length_take];have:=(h.2.2.1).2.1;omega
 have HOd:=Qh hownd;have HNd:=Qh hnewsd;have HNLd:=Qh hnld;clear hownd hnewsd hnld;have nf0:¬ w.heap.size=w.heap.size+1:=by omega
 have nf1:¬ w.heap.size=w.heap.size+2:=by omega
 have nf2:¬ w.heap.size+1=w.heap.size+1+1:=by omega
 have nf3:¬ w.heap.size=w.heap.size+1:=by omega
 clear nf3;go_region_held3 (fun w'=>bE w5.heap.size (w.heap.size+1) (w.heap.size+1+1) (.bool b) (.slice (some ⟨ga,0,none⟩) n capa) w5 w') (first | with_reducible exact bE.of Qr ((aa _).drew) y1.lt cy1_0 cy1_1 | with_reducible exact bE.of Qr (((aa _).alloc Qr _).drew) y1.lt cy1_0 cy1_1 | with_reducible exact bE.of Qr (by assumption) y1.lt cy1_0 cy1_1 | with_reducible exact (bE.set2 (bE.of Qr (by assumption) y1.lt cy1_0 cy1_1) (.inl ⟨rfl,rfl⟩)) | with_reducible exact (bE.set2 (bE.set2 (bE.of Qr (by assumption) y1.lt cy1_0 cy1_1) (.inl ⟨rfl,rfl⟩)) (.inr ⟨rfl,rfl⟩)) | with_reducible exact (bE.set3 (bE.set2 (bE.set2 (bE.of Qr (by assumption) y1.lt cy1_0 cy1_1) (.inl ⟨rfl,rfl⟩)) (.inr ⟨rfl,rfl⟩)) (by omega)) | with_reducible exact (bE.set3 (bE.set3 (bE.set2 (bE.set2 (bE.of Qr (by assumption) y1.lt cy1_0 cy1_1) (.inl ⟨rfl,rfl⟩)) (.inr ⟨rfl,rfl⟩)) (by omega)) (by omega))) ((refine step_append_lies _ rfl _ _ _ rfl w5.heap.size 58 i0 (.int .u32 0) 1 4 Tryz.underlying63 hi0 hz0 hz1 hz2 rfl (by omega) _ 0 [] rfl (by first | exact HOd.out | exact HOd.out.drew) ⟨gD,oD,none⟩ m e (words (a.den.take m)) rfl HNLd.out HNd.out (gl _) (by omega) (by unfold maxLen;omega) (by omega) (by simp) (w5.heap.size+1) (by simp) ?_;intro gd capd vd hownd hgrowd hatd hltd;have qd:Below w5.heap.size w5 vd:=(((Below.refl _ _).alloc Qr _).drew).grown hgrowd (by simp) (fun b hb=>Nat.le_of_eq (Option.some.inj hb));have z1:Blk vd (w.heap.size+1) 194 #[.bool b,.slice (some ⟨ga,0,none⟩) n capa]:=y1.below qd y1.lt;obtain ⟨cz10,cz11⟩:=z1.c2;obtain ⟨fz10,fz11⟩:=z1.f2;have z2:Blk vd (w.heap.size+1+1) 194 #[.bool false,.slice none 0 0]:=x1c.below qd x1c.lt;obtain ⟨cz20,cz21⟩:=z2.c2;obtain ⟨fz20,fz21⟩:=z2.f2));simp only [Nat.zero_add,List.nil_append] at hownd
 have hwd:Wd vd (some ⟨gd,0,none⟩) m capd a.den:=by
  have x:=Wd.of_own hownd (Wds.take (h.2.2.1).1 m);rwa [List.take_of_length_le (Nat.le_of_eq (h.2.2.1).2.1.symm)] at x
 clear hownd hgrowd hatd HOd HNd HNLd;clear cx1aa cx1ab cx1ac lx1aa lx1ab lx1ac lx1ad cy1_0 fy1 cy1_1 ly1 cx1ca fx1ca cx1cb fx1cb lx1ca lx1cb lx1cc lx1cd;replace x1a:=x1a.b qd;replace hwa:=hwa.belw qd;have bwd:Below w.heap.size w vd:=bw5.trans (qd.mono bw5.size);have lwd:w5.heap.size≤vd.heap.size:=qd.size;go_wp2_with fail;refine bodyPost_ret (v:=.tuple #[.agg #[.bool b,.slice (some ⟨ga,0,none⟩) n capa],.agg #[.bool false,.slice (some ⟨gd,0,none⟩) m capd]]) (by simp [results,Tryz.results181,go_sem, *] <;> trivial) rfl ?_;have kp:=(((((Kp.refl vd).sb (w.heap.size+1) 0 z1.box (by decide) (.bool b)).sb (w.heap.size+1) 1 (z1.box.set ⟨w.heap.size+1,0,none⟩ (.bool b)) (by decide) (.slice (some ⟨ga,0,none⟩) n capa)).sb (w.heap.size+1+1) 0 ((z2.box.set ⟨w.heap.size+1,0,none⟩ (.bool b)).set ⟨w.heap.size+1,1,none⟩ (.slice (some ⟨ga,0,none⟩) n capa)) (by decide) (.bool false)).sb (w.heap.size+1+1) 1 (((z2.box.set ⟨w.heap.size+1,0,none⟩ (.bool b)).set ⟨w.heap.size+1,1,none⟩ (.slice (some ⟨ga,0,none⟩) n capa)).set ⟨w.heap.size+1+1,0,none⟩ (.bool false)) (by decide) (.slice (some ⟨gd,0,none⟩) m capd));exact ⟨b,some ⟨ga,0,none⟩,n,capa,false,some ⟨gd,0,none⟩,m,capd,rfl,⟨h.1.symm.trans HE.out.2.1,HE.out.1 ▸ hwa.keep kp,h.2.2.2.1⟩,⟨by simp [wh],HE.out.2.2 ▸ hwd.keep kp,h.2.2.2.2⟩,((((bwd.sc (w.heap.size+1) 0 (by omega) (.bool b)).sc (w.heap.size+1) 1 (by omega) (.slice (some ⟨ga,0,none⟩) n capa)).sc (w.heap.size+1+1) 0 (by omega) (.bool false)).sc (w.heap.size+1+1) 1 (by omega) (.slice (some ⟨gd,0,none⟩) m capd))⟩
theorem gU (w:World) (b A n c D m e q k) (h:QZ w b A n c D m e q k) (h0:0 < k) (hk:k≤300000000) :
 Calls Tryz.prog 181 #[.agg #[.bool b,.slice A n c,.slice D m e]] w (qh w q.num q.den k):=by
 obtain ⟨a,h,rfl⟩:=h;cases ho:a.ok
 ·exact jE w b A n c D m e a k h h0 hk (.inl ho)
 by_cases hn:n=0
 ·exact jE w b A n c D m e a k h h0 hk (.inr hn)
 exact oy w b A n c D m e a k h h0 hk ho (h.num_ne (by omega))
theorem vz (w:World) (b A n c D m e q k) (h:QZ w b A n c D m e q k) (b' A' n' c' D' m' e' q' k') (h':QZ w b' A' n' c' D' m' e' q' k') (h0:0 < k) (hk:k≤40000000) (h0':0 < k') (hk':k'≤40000000) :
 Calls Tryz.prog 155 #[.agg #[.bool b,.slice A n c,.slice D m e],.agg #[.bool b',.slice A' n' c',.slice D' m' e']] w (aE w (.int .i64 (dq (q.num * q'.den) (q'.num * q.den)))):=by
 go_in;go_wp2_with fail;(with_reducible refine (gU _ b A n c D m e (q) (k) ?_ ?_ ?_).mono ?_);(exact (h.belw (((Below.refl _ _).alloc Qr _).alloc (by simp) _)));(omega);(omega);rintro e w1 ⟨b1,A1,n1,c1,b'1,A'1,n'1,c'1,rfl,h1,h'1,hb1⟩;have q1:=hb1.q2;replace h:=h.belw q1;replace h':=h'.belw q1;have x1a:Blk w1 w.heap.size 65 #[.bool b,.slice A n c,.slice D m e]:=((am _ _ _ (by simp)).alloc _).below hb1 (by simp <;> omega);have x1b:=(am _ _ _ (g:=w.heap.size+1) (by simp)).below hb1 (by simp);have bw1:=(aa w).trans (q1.mono (aa w).size);have lw1:=hb1.l2;clear q1;have cx1b:=x1b.c3;obtain ⟨lx1ba,lx1bb,lx1bc,lx1bd⟩:=iX x1b.lt;go_wp2_with fail;(with_reducible refine (gU _ b' A' n' c' D' m' e' (q') (k') ?_ ?_ ?_).mono ?_);(exact (h'.belw (((Below.refl _ _).alloc Qr _).alloc (by simp) _)));(omega);(omega);rintro e w2 ⟨b2,A2,n2,c2,b'2,A'2,n'2,c'2,rfl,h2,h'2,hb2⟩;clear cx1b lx1ba lx1bb lx1bc lx1bd;have q2:=hb2.q2;replace h:=h.belw q2;replace h':=h'.belw q2;replace h1:=h1.belw q2;replace h'1:=h'1.belw q2;replace x1a:=x1a.b q2;replace x1b:=x1b.b q2;have x2a:Blk w2 w1.heap.size 194 #[.bool b1,.slice A1 n1 c1]:=((am _ _ _ (by simp)).alloc _).below hb2 (by simp <;> omega);have x2b:=(am _ _ _ (g:=w1.heap.size+1) (by simp)).below hb2 (by simp);have bw2:=bw1.trans (q2.mono bw1.size);have lw2:=hb2.l2;clear q2 bw1;go_wp2_with fail;have p3:=(((Kp.refl w2).alloc (.cells #[.bool b2,.slice A2 n2 c2] 194)).alloc (.cells #[.bool b'2,.slice A'2 n'2 c'2] 194));have bw3:=((bw2.alloc (by first | omega | (simp <;> omega)) (.cells #[.bool b2,.slice A2 n2 c2] 194)).alloc (by first | omega | (simp <;> omega)) (.cells #[.bool b'2,.slice A'2 n'2 c'2] 194));have x3a:Blk ((w2.alloc (.cells #[.bool b2,.slice A2 n2 c2] 194)).alloc (.cells #[.bool b'2,.slice A'2 n'2 c'2] 194)) w2.heap.size 194 #[.bool b2,.slice A2 n2 c2]:=((am _ _ _ (by simp)).alloc (.cells #[.bool b'2,.slice A'2 n'2 c'2] 194));have x3b:Blk ((w2.alloc (.cells #[.bool b2,.slice A2 n2 c2] 194)).alloc (.cells #[.bool b'2,.slice A'2 n'2 c'2] 194)) (w2.heap.size+1) 194 #[.bool b'2,.slice A'2 n'2 c'2]:=(am _ _ _ (by simp));replace x1a:=((x1a.alloc (.cells #[.bool b2,.slice A2 n2 c2] 194)).alloc (.cells #[.bool b'2,.slice A'2 n'2 c'2] 194));replace x1b:=((x1b.alloc (.cells #[.bool b2,.slice A2 n2 c2] 194)).alloc (.cells #[.bool b'2,.slice A'2 n'2 c'2] 194));replace x2a:=((x2a.alloc (.cells #[.bool b2,.slice A2 n2 c2] 194)).alloc (.cells #[.bool b'2,.slice A'2 n'2 c'2] 194));replace x2b:=((x2b.alloc (.cells #[.bool b2,.slice A2 n2 c2] 194)).alloc (.cells #[.bool b'2,.slice A'2 n'2 c'2] 194));have lw3:w2.heap.size+2≤((w2.alloc (.cells #[.bool b2,.slice A2 n2 c2] 194)).alloc (.cells #[.bool b'2,.slice A'2 n'2 c'2] 194)).heap.size:=by simp
 generalize hE3:((w2.alloc (.cells #[.bool b2,.slice A2 n2 c2] 194)).alloc (.cells #[.bool b'2,.slice A'2 n'2 c'2] 194))=w3 at p3 bw3 lw3 x3a x3b x1a x1b x2a x2b ⊢;clear hE3;replace h:=h.keep p3;replace h':=h'.keep p3;replace h1:=h1.keep p3;replace h'1:=h'1.keep p3;replace h2:=h2.keep p3;replace h'2:=h'2.keep p3;clear bw2;have lx1a:=eY x1a.lt;obtain ⟨lx1ba,lx1bb,lx1bc,lx1bd⟩:=iX x1b.lt;have cx2a:=x2a.c2;have lx2a:=eY x2a.lt;have cx2b:=x2b.c2;have lx2b:=iX x2b.lt;have cx3a:=x3a.c2;have lx3a:=eY x3a.lt;have cx3b:=x3b.c2;have lx3b:=iX x3b.lt
 go_region_held3 (fun w'=>Sees w3.heap.size w3 w') (first | with_reducible exact Sees.of Qr (by assumption) | with_reducible exact Sees.of Qr (aa _).drew | exact Sees.of Qr (ae (aa _) 1) | exact Sees.of Qr (ae (by assumption) _))
  (first
   | (go_at_call 199;(with_reducible refine (tC _ b1 A1 n1 c1 ((q).num) ((k)) ?_ b'2 A'2 n'2 c'2 (((q').den:Int)) ((k')) ?_ ?_).mono ?_);(exact h1.iz);(exact h'2.iz);(omega);rintro e w4 ⟨b4,A4,n4,c4,rfl,h4,hb4⟩;replace hb4:=ag (ae (aa _) 1) hb4;have q4:Below w3.heap.size w3 w4:=ag (aa w3) hb4;replace h:=h.belw hb4;replace h':=h'.belw hb4;replace h1:=h1.belw hb4;replace h'1:=h'1.belw hb4;replace h2:=h2.belw hb4;replace h'2:=h'2.belw hb4)
   | (go_at_call 199;(with_reducible refine (tC _ b2 A2 n2 c2 ((q').num) ((k')) ?_ b'1 A'1 n'1 c'1 (((q).den:Int)) ((k)) ?_ ?_).mono ?_);(exact h2.iz);(exact h'1.iz);(omega);rintro e w5 ⟨b5,A5,n5,c5,rfl,h5,hb5⟩;have q5:Below w3.heap.size w3 w5:=ag q4 hb5;replace h:=h.belw hb5;replace h':=h'.belw hb5;replace h1:=h1.belw hb5;replace h'1:=h'1.belw hb5;replace h2:=h2.belw hb5;replace h'2:=h'2.belw hb5;replace h4:=h4.belw hb5)
   | (go_at_call 152;(with_reducible refine (qi _ b4 A4 n4 c4 (((q).num) * (((q').den:Int))) (((k))+((k'))) ?_ b5 A5 n5 c5 (((q').num) * (((q).den:Int))) (((k'))+((k))) ?_ ?_).mono ?_);(exact h4.iz);(exact h5.iz);(omega);rintro e w6 ⟨rfl,hb6⟩;have q6:Below w3.heap.size w3 w6:=ag q5 hb6;replace h:=h.belw hb6;replace h':=h'.belw hb6;replace h1:=h1.belw hb6;replace h'1:=h'1.belw hb6;replace h2:=h2.belw hb6;replace h'2:=h'2.belw hb6;replace h4:=h4.belw hb6;replace h5:=h5.belw hb6))
 have bw6:=bw3.trans (q6.mono bw3.size);clear lx1a lx1ba lx1bb lx1bc lx1bd cx2a lx2a cx2b lx2b cx3a lx3a cx3b lx3b;replace x1a:=x1a.b q6;replace x1b:=x1b.b q6;replace x2a:=x2a.b q6;replace x2b:=x2b.b q6;replace x3a:=x3a.b q6;replace x3b:=x3b.b q6;have lw6:=q6.size;go_wp2;go_ret;exact cJ rfl bw6
theorem un (w:World) (b A n c z k) (h:IZ w b A n c z k) (b' A' n' c' z' k') (h':IZ w b' A' n' c' z' k') (q:Rat) (K:Nat) (hd:z'≠0) (hq:Rat.divInt z z'=q) (hs:Sz q K) (hk:k+k'≤300000000) :
 Calls Tryz.prog 191 #[.agg #[.bool b,.slice A n c],.agg #[.bool b',.slice A' n' c']] w (fy w .nilIface q K):=by
 obtain ⟨s,hs1⟩:∃ s,z'.sign=s:=⟨_,rfl⟩;have e0:((s:Int) == 0)=false:=by simp;rintro rfl;exact hd (Int.sign_eq_zero_iff_zero.1 hs1)
 have HS1:=Qh hs1;have HD:=Qh hd;have HQ:=Qh hq;have HS:=Qh hs;clear hs1 hd hq hs;go_in;go_wp2_with fail;(with_reducible refine (ef _ b' A' n' c' (z') (k') ?_ s ?_ ?_).mono ?_);(exact (h'.belw ((((Below.refl _ _).alloc Qr _).alloc (by simp) _).alloc (by simp <;> omega) _)));(exact HS1.out);(omega);rintro e w1 ⟨rfl,hb1⟩;have q1:=hb1.q3;replace h:=h.belw q1;replace h':=h'.belw q1;have x1a:Blk w1 w.heap.size 194 #[.bool b,.slice A n c]:=(((am _ _ _ (by simp)).alloc _).alloc _).below hb1 (by simp <;> omega);have x1b:=((am _ _ _ (g:=w.heap.size+1) (by simp)).alloc _).below hb1 (by simp <;> omega);have x1c:=(am _ _ _ (g:=w.heap.size+1+1) (by simp)).below hb1 (by simp);have bw1:=(aa w).trans (q1.mono (aa w).size);have lw1:=hb1.l3;clear q1;have cx1a:=x1a.c2;have lx1a:=eY x1a.lt;have cx1b:=x1b.c2;have lx1b:=iX x1b.lt;go_wp2_with fail;(with_reducible refine (ul _ b A n c (z) (k) ?_ b' A' n' c' (z') (k') ?_ q K ?_ ?_ ?_ ?_).mono ?_);(exact h);(exact h');(exact HD.out);(exact HQ.out);(exact HS.out);(omega);rintro e w2 ⟨b2,A2,n2,c2,A'2,n'2,c'2,rfl,h2,q2⟩;clear cx1a lx1a cx1b lx1b;replace h:=h.belw q2;replace h':=h'.belw q2;replace x1a:=x1a.b q2;replace x1b:=x1b.b q2;replace x1c:=x1c.b q2;have bw2:=bw1.trans (q2.mono bw1.size);have lw2:=q2.size;clear q2 bw1;have cx1c:=x1c.c3;have fx1c:=x1c.f3;have lx1c:=sk x1c.lt;go_wp2_with fail;refine bodyPost_ret (v:=.tuple #[.agg #[.bool b2,.slice A2 n2 c2,.slice A'2 n'2 c'2],.nilIface]) (by simp [results,Tryz.results191,go_sem, *] <;> trivial) rfl ?_;exact ⟨b2,A2,n2,c2,A'2,n'2,c'2,rfl,h2.keep ((((Kp.refl w2).sb (w.heap.size+1+1) 0 x1c.box (by decide) (.bool b2)).sb (w.heap.size+1+1) 1 (x1c.box.set ⟨w.heap.size+1+1,0,none⟩ (.bool b2)) (by decide) (.slice A2 n2 c2)).sb (w.heap.size+1+1) 2 ((x1c.box.set ⟨w.heap.size+1+1,0,none⟩ (.bool b2)).set ⟨w.heap.size+1+1,1,none⟩ (.slice A2 n2 c2)) (by decide) (.slice A'2 n'2 c'2)),(((bw2.sc (w.heap.size+1+1) 0 (by omega) (.bool b2)).sc (w.heap.size+1+1) 1 (by omega) (.slice A2 n2 c2)).sc (w.heap.size+1+1) 2 (by omega) (.slice A'2 n'2 c'2))⟩
end Go.Proofs.YtfilnhompchciaaGreatDoor
namespace Bn
structure TN where
  t:Rat
  h:Bool
deriving DecidableEq
def TN.ok (a:TN):Prop:=a.h=true→a.t=0
/-! ### order -/
def mw (a b:Rat):Int:=if a < b then -1 else if a=b then 0 else 1
theorem ce {a b:Rat}:mw a b=0 ↔ a=b:=by
 unfold mw;split
 ·grind
 split
 ·simpa
 simpa
end Bn

/- Cells that are only read; turns as values. -/
namespace Go.Proofs.YtfilnhompchciaaGreatDoor
open Go Go.RowKit Bn
attribute [local go_sem ↓] Go.wp_at_zero Go.wp_at_succ
def Rd (w:World) (g:Nat) (cs:Array Value):Prop:=g < w.heap.size∧∀ i,i < cs.size→w.cell? ⟨g,i,none⟩=cs[i]?
section
variable {w w':World}{g:Nat}{cs:Array Value}
theorem Rd.lt (h:Rd w g cs):g < w.heap.size:=h.1
theorem Rd.cell (h:Rd w g cs) (i:Nat) (hi:i < cs.size):w.cell? ⟨g,i,none⟩=cs[i]?:=h.2 i hi
theorem Rd.below {B:Nat}(h:Rd w g cs) (hb:Below B w w') (hg:g < B):Rd w' g cs:=by
 refine ⟨?_,fun i hi=>?_⟩
 ·have:=hb.block g hg
  rcases Nat.lt_or_ge g w'.heap.size with h1 | h1
  ·exact h1
  rw [Array.getElem?_eq_none h1,Array.getElem?_eq_getElem h.1] at this;cases this
 rw [← h.2 i hi];unfold World.cell?;rw [hb.block g hg]
theorem Rd.alloc (h:Rd w g cs) (o:Obj):Rd (w.alloc o) g cs:=by
 refine ⟨by have:=h.1;simp;omega,fun i hi=>?_⟩;rw [← h.2 i hi];unfold World.cell?;rw [Below.heap_alloc w o g h.1]
theorem Rd.far (h:Rd w g cs) {p:Addr}(hp:g≠p.block) (u:Value):Rd (w.setCell p u) g cs:=by
 refine ⟨by have:=h.1;simp [World.setCell];exact this,fun i hi=>?_⟩;rw [← h.2 i hi];unfold World.cell?;rw [Below.heap_setCell w p u g hp]
end
abbrev tG (G:Nat) (W0 W:World):Prop:=((∀ b o,b < G→W.cell? ⟨b,o,none⟩=W0.cell? ⟨b,o,none⟩)∧(∀ b o,b < G→W.frozen? ⟨b,o,none⟩=W0.frozen? ⟨b,o,none⟩))∧G≤W.heap.size
theorem tG.of {W0 W:World}(hb:Below W0.heap.size W0 W):tG W0.heap.size W0 W:=Sees.of Qr hb

abbrev lc (G g g':Nat) (W0 W:World):Prop:=((∀ b o,b < G→b≠g→b≠g'→W.cell? ⟨b,o,none⟩=W0.cell? ⟨b,o,none⟩)∧(∀ b o,b < G→W.frozen? ⟨b,o,none⟩=W0.frozen? ⟨b,o,none⟩))∧G≤W.heap.size
theorem lc.of {G g g':Nat}{W0 W:World}(h:G≤W0.heap.size) (hb:Below W0.heap.size W0 W):lc G g g' W0 W :=
 ⟨⟨fun b o hlt _ _=>(bM hb).1 b o (Nat.lt_of_lt_of_le hlt h),fun b o hlt=>(bM hb).2 b o (Nat.lt_of_lt_of_le hlt h)⟩,Nat.le_trans h hb.size⟩
theorem lc.set2 {G g g':Nat}{W0 W:World}(h:lc G g g' W0 W) {i:Nat}{u:Value}:lc G g g' W0 (W.setCell ⟨g',i,none⟩ u):=by
 refine ⟨⟨fun b o hlt hne hne'=>?_,fun b o hlt=>?_⟩,?_⟩
 ·rw [← h.1.1 b o hlt hne hne'];unfold World.cell?;rw [Below.heap_setCell _ _ _ b hne']
 ·rw [← h.1.2 b o hlt];exact World.frozen?_setCell ..
 have:=h.2;simp [World.setCell];exact this
def QK (w:World) (b:Bool) (A:Option Addr) (n c:Nat) (D:Option Addr) (m e:Nat) (q:Rat) (k:Nat):Prop:=∃ a,QD w b A n c D m e a k∧a.q=q∧a.ok=true
section
variable {w w':World}{b x:Bool}{A D:Option Addr}{n c m e k j:Nat}{q:Rat}{t:TN}
theorem QK.qz (h:QK w b A n c D m e q k):QZ w b A n c D m e q k:=by obtain ⟨a,h1,h2,_⟩:=h;exact ⟨a,h1,h2⟩
theorem QV.qk (h:QV w b A n c D m e q k):QK w b A n c D m e q k:=⟨_,h,tU q,pB q⟩
theorem QK.belw (h:QK w b A n c D m e q k) (hb:Below w.heap.size w w'):QK w' b A n c D m e q k:=by obtain ⟨a,h1,h2⟩:=h;exact ⟨a,h1.belw hb,h2⟩
theorem QK.keep (h:QK w b A n c D m e q k) (hb:Kp w w'):QK w' b A n c D m e q k:=by obtain ⟨a,h1,h2⟩:=h;exact ⟨a,h1.keep hb,h2⟩
theorem QK.mono (h:QK w b A n c D m e q k) (hk:k≤j):QK w b A n c D m e q j:=by obtain ⟨a,h1,h2⟩:=h;exact ⟨a,h1.mono hk,h2⟩
def TK (w:World) (b:Bool) (A:Option Addr) (n c:Nat) (D:Option Addr) (m e:Nat) (x:Bool) (t:TN) (k:Nat):Prop:=QK w b A n c D m e t.t k∧x=t.h∧t.ok
def TV (w:World) (b:Bool) (A:Option Addr) (n c:Nat) (D:Option Addr) (m e:Nat) (x:Bool) (t:TN) (k:Nat):Prop:=QV w b A n c D m e t.t k∧x=t.h∧t.ok
theorem TV.tk (h:TV w b A n c D m e x t k):TK w b A n c D m e x t k:=⟨h.1.qk,h.2⟩
theorem TK.belw (h:TK w b A n c D m e x t k) (hb:Below w.heap.size w w'):TK w' b A n c D m e x t k:=⟨h.1.belw hb,h.2⟩
theorem TK.keep (h:TK w b A n c D m e x t k) (hb:Kp w w'):TK w' b A n c D m e x t k:=⟨h.1.keep hb,h.2⟩
theorem TV.belw (h:TV w b A n c D m e x t k) (hb:Below w.heap.size w w'):TV w' b A n c D m e x t k:=⟨h.1.belw hb,h.2⟩
theorem TV.keep (h:TV w b A n c D m e x t k) (hb:Kp w w'):TV w' b A n c D m e x t k:=⟨h.1.keep hb,h.2⟩
theorem TK.mono (h:TK w b A n c D m e x t k) (hk:k≤j):TK w b A n c D m e x t j:=⟨h.1.mono hk,h.2⟩
theorem TK.qk (h:TK w b A n c D m e x t k):QK w b A n c D m e t.t k:=h.1
theorem TK.qz (h:TK w b A n c D m e x t k):QZ w b A n c D m e t.t k:=h.1.qz
theorem TV.qk (h:TV w b A n c D m e x t k):QK w b A n c D m e t.t k:=h.1.qk
theorem TV.qz (h:TV w b A n c D m e x t k):QZ w b A n c D m e t.t k:=h.1.qz
theorem TV.mono (h:TV w b A n c D m e x t k) (hk:k≤j):TV w b A n c D m e x t j:=⟨h.1.mono hk,h.2⟩
end

theorem fz {l:List Bool}{i:Nat}(h:l[i]?=some false):(l.set i true).count false+1=l.count false:=by
 induction l generalizing i with
 | nil=>simp at h
 | cons b l ih =>
  cases i with
  | zero=>simp at h;subst h;simp
  | succ i =>
   simp only [List.getElem?_cons_succ] at h;have:=ih h;simp only [List.set_cons_succ,List.count_cons];omega
section
variable {P:Program}{ops:Array Oper}{Q:Exit→Act→World→Prop}{md:Region.Mode}
theorem jF {L:Array Bool}{i:Nat}(h:i∈Region.ready md ops L):L.toList[i]?=some false:=by
 have h1:=(mem_ready.1 h).1;rcases Nat.lt_or_ge i L.size with h2 | h2
 ·rw [Array.getD_eq_getD_getElem?,Array.getElem?_eq_getElem h2] at h1
  simp only [Option.getD_some] at h1;rw [Array.getElem?_toList,Array.getElem?_eq_getElem h2,h1]
 rw [Array.getD_eq_getD_getElem?,Array.getElem?_eq_none h2] at h1;cases h1
theorem oB (A:Array Bool→Act→World→Prop)
 (hstep:∀ L a w i,L.size=ops.size→i∈Region.ready md ops L→A L a w→wpOp P ops Q i (A (L.setIfInBounds i true)) a w)
 (hend:∀ L a w,L.size=ops.size→Region.ready md ops L=[]→A L a w→Q .normal a w) :
 ∀ (fuel:Nat) (L:Array Bool) (a:Act) (w:World),L.size=ops.size→L.toList.count false≤fuel→A L a w→wpAny P md ops Q fuel L a w:=by
 intro fuel
 induction fuel with
 | zero =>
  intro L a w hs hc hA
  have hr:Region.ready md ops L=[]:=by
   cases hr:Region.ready md ops L with
   | nil=>rfl
   | cons i r =>
    have h1:=jF (md:=md) (ops:=ops) (L:=L) (i:=i) (by rw [hr];simp);have h2:=fz h1;omega
  exact ⟨hr,hend L a w hs hr hA⟩
 | succ fuel ih =>
  intro L a w hs hc hA;refine ⟨fun hr=>hend L a w hs hr hA,fun i hi=>wpOp_mono (fun a' w' h'=>ih _ _ _ (by simpa using hs) ?_ h') (hstep L a w i hs hi hA)⟩;have h2:=fz (jF hi);rw [Array.toList_setIfInBounds];omega
end
section
variable {g:Nat}{t:TypeId}
end
structure Flt where
  a:Nat
  s:Nat
  T:TypeId
  Z:Array Value
  PS:Array Value→World→Prop
  [hZ:NoU Z]
structure Own where
  g:Nat
  s:Nat
  o:Nat
  T:TypeId
  Z:Array Value
  PS:Array Value→World→Prop
  [hZ:NoU Z]
def upd (x:Nat→Value) (i:Nat) (v:Value):Nat→Value:=fun j=>if j=i then v else x j
theorem qq (x:Nat→Value) (i:Nat) (v:Value):upd x i v i=v:=by simp [upd]
theorem dt (x:Nat→Value) {i j:Nat}(v:Value) (h:j≠i):upd x i v j=x j:=by simp [upd,h]

section
variable (P:Program) (ops:Array Oper) (Q:Exit→Act→World→Prop) (fr:(Nat→Value)→Act) (R:Nat→Value→World→Prop) (es:List Flt) (ow:List Own) (B:Nat) (W:World)
end
theorem dC {L:Array Bool}{i j:Nat}(hi:i < L.size):(L.setIfInBounds i true).getD j false=(decide (j=i) || L.getD j false):=by
 rw [Array.getD_eq_getD_getElem?,Array.getD_eq_getD_getElem?,Array.getElem?_setIfInBounds];by_cases h:i=j
 ·subst h;simp [hi]
 rw [if_neg h];simp [show ¬ j=i from fun e=>h e.symm]
section
variable {P:Program}{ops:Array Oper}{Q:Exit→Act→World→Prop}{fr:(Nat→Value)→Act}{R:Nat→Value→World→Prop}{es:List Flt}{ow:List Own}{B:Nat}
end

def fA (S:Nat→Oper→Prop):Nat→List Oper→Prop
  | _,[]=>True
  | k,o :: l=>S k o∧fA S (k+1) l
theorem oC {S:Nat→Oper→Prop}:∀ (l:List Oper) (k:Nat),fA S k l→∀ i o,l[i]?=some o→S (k+i) o:=by
 intro l
 induction l with
 | nil=>intro k _ i o h;simp at h
 | cons a l ih =>
  intro k h i o ho
  cases i with
  | zero=>simp at ho;subst ho;exact h.1
  | succ i =>
   have:=ih (k+1) h.2 i o (by simpa using ho);rw [show k+(i+1)=k+1+i by omega];exact this
theorem bV {S:Nat→Oper→Prop}{l:List Oper}(h:fA S 0 l):∀ i o,(l.toArray)[i]?=some o→S i o:=fun i o ho=>by
 have:=oC l 0 h i o (by simpa using ho);rwa [Nat.zero_add] at this
def qr:Nat→List Oper→Bool
  | _,[]=>true
  | k,o :: l=>o.after.all (fun e=>!Region.binds .any e || decide (e.on < k)) && qr (k+1) l
theorem eL:∀ (l:List Oper) (k:Nat),qr k l=true→fA (fun i o=>∀ e∈o.after,Region.binds .any e=true→e.on < i) k l:=by
 intro l
 induction l with
 | nil=>intro k _;trivial
 | cons a l ih =>
  intro k h;simp only [qr,Bool.and_eq_true] at h;refine ⟨fun e he hb=>?_,ih _ h.2⟩;have:=(Array.all_eq_true_iff_forall_mem.1 h.1) e he;rw [hb] at this;simpa using this
def PV (w:World) (b:Bool) (A:Option Addr) (n c:Nat) (D:Option Addr) (m e:Nat) (b':Bool) (A':Option Addr) (n' c':Nat) (D':Option Addr) (m' e':Nat) (q:Rat) (k:Nat) (r:Rat) (j:Nat):Prop:=QV w b A n c D m e q k∧QV w b' A' n' c' D' m' e' r j
theorem PV.keep {w w':World}{b b':Bool}{A D A' D':Option Addr}{n c m e n' c' m' e' k j:Nat}{q r:Rat}(h:PV w b A n c D m e b' A' n' c' D' m' e' q k r j) (hk:Kp w w'):PV w' b A n c D m e b' A' n' c' D' m' e' q k r j:=⟨h.1.keep hk,h.2.keep hk⟩
theorem PV.belw {w w':World}{b b':Bool}{A D A' D':Option Addr}{n c m e n' c' m' e' k j:Nat}{q r:Rat}(h:PV w b A n c D m e b' A' n' c' D' m' e' q k r j) (hk:Below w.heap.size w w'):PV w' b A n c D m e b' A' n' c' D' m' e' q k r j:=⟨h.1.belw hk,h.2.belw hk⟩
theorem QK.qv {w:World}{b:Bool}{A D:Option Addr}{n c m e k:Nat}{q:Rat}(h:QK w b A n c D m e q k):QV w b A n c D m e q k:=by
 obtain ⟨a,h1,rfl,h2⟩:=h;unfold QV;rw [kR h1.2.1.1 h1.2.2.1.1 h2];exact h1
theorem TK.tv {w:World}{b x:Bool}{A D:Option Addr}{n c m e k:Nat}{t:TN}(h:TK w b A n c D m e x t k):TV w b A n c D m e x t k:=⟨h.1.qv,h.2⟩
def Ts (w:World) (g n k:Nat):Prop:=g < w.heap.size∧∀ i,i < n→∃ b A m c D m' e x t,w.cell? ⟨g,i * 4,none⟩=some (.bool b)∧w.cell? ⟨g,i * 4+1,none⟩=some (.slice A m c)∧w.cell? ⟨g,i * 4+2,none⟩=some (.slice D m' e)∧w.cell? ⟨g,i * 4+3,none⟩=some (.bool x)∧TK w b A m c D m' e x t k
theorem Ts.belw {w w':World}{g n k:Nat}(h:Ts w g n k) (hb:Below w.heap.size w w'):Ts w' g n k:=by
 obtain ⟨hg,h⟩:=h;have hc:=(bM hb).1;refine ⟨Nat.lt_of_lt_of_le hg hb.size,fun i hi=>?_⟩;obtain ⟨b,A,m,c,D,m',e,x,t,h1,h2,h3,h4,h5⟩:=h i hi;exact ⟨b,A,m,c,D,m',e,x,t,(hc _ _ hg).trans h1,(hc _ _ hg).trans h2,(hc _ _ hg).trans h3,(hc _ _ hg).trans h4,h5.belw hb⟩
def Rs (w:World) (g N:Nat) (ns ms:Nat→Nat):Prop:=g < w.heap.size∧∀ i,i < N→∃ b A c D e,w.cell? ⟨g,i * 3,none⟩=some (.bool b)∧w.cell? ⟨g,i * 3+1,none⟩=some (.slice A (ns i) c)∧w.cell? ⟨g,i * 3+2,none⟩=some (.slice D (ms i) e)
theorem Rs.belw {w w':World}{g N:Nat}{ns ms:Nat→Nat}(h:Rs w g N ns ms) (hb:Below w.heap.size w w'):Rs w' g N ns ms:=by
 obtain ⟨hg,h⟩:=h;have hc:=(bM hb).1;refine ⟨Nat.lt_of_lt_of_le hg hb.size,fun i hi=>?_⟩;obtain ⟨b,A,c,D,e,h1,h2,h3⟩:=h i hi;exact ⟨b,A,c,D,e,(hc _ _ hg).trans h1,(hc _ _ hg).trans h2,(hc _ _ hg).trans h3⟩
def Gs (w:World) (g N k:Nat) (rs:Nat→RD) (xs:Nat→Bool):Prop:=g < w.heap.size∧∀ i,i < N→∃ b A m c D m' e,w.cell? ⟨g,i * 4,none⟩=some (.bool b)∧w.cell? ⟨g,i * 4+1,none⟩=some (.slice A m c)∧w.cell? ⟨g,i * 4+2,none⟩=some (.slice D m' e)∧w.cell? ⟨g,i * 4+3,none⟩=some (.bool (xs i))∧QD w b A m c D m' e (rs i) k
theorem Gs.belw {w w':World}{g N k:Nat}{rs:Nat→RD}{xs:Nat→Bool}(h:Gs w g N k rs xs) (hb:Below w.heap.size w w'):Gs w' g N k rs xs:=by
 obtain ⟨hg,h⟩:=h;have hc:=(bM hb).1;refine ⟨Nat.lt_of_lt_of_le hg hb.size,fun i hi=>?_⟩;obtain ⟨b,A,m,c,D,m',e,h1,h2,h3,h4,h5⟩:=h i hi;exact ⟨b,A,m,c,D,m',e,(hc _ _ hg).trans h1,(hc _ _ hg).trans h2,(hc _ _ hg).trans h3,(hc _ _ hg).trans h4,h5.belw hb⟩
end Go.Proofs.YtfilnhompchciaaGreatDoor
namespace Bn
open Go.Lib
theorem qw {q d:Nat}(hq:0 < q) (hd:d < 10):decDigits (q * 10+d)=decDigits q ++ [UInt8.ofNat (48+d)]:=by
 rw [decDigits,dif_neg (by omega),show (q * 10+d) / 10=q by omega,show (q * 10+d) % 10=d by omega]
def ld:Nat→Nat→List UInt8
  | 0,_=>[]
  | k+1,r=>ld k (r / 10) ++ [UInt8.ofNat (48+r % 10)]
theorem nv:∀ (k:Nat) {q r:Nat},0 < q→r < 10 ^ k→decDigits (q * 10 ^ k+r)=decDigits q ++ ld k r
 | 0,q,r,_,hr=>by
  have:r=0:=by simpa using hr
  subst this;simp [ld]
 | k+1,q,r,hq,hr=>by
  have h1:r / 10 < 10 ^ k:=by rw [Nat.pow_succ] at hr;omega
  have h2:0 < q * 10 ^ k:=Nat.mul_pos hq (Nat.pow_pos (by omega))
  have e:q * 10 ^ (k+1)+r=(q * 10 ^ k+r / 10) * 10+r % 10:=by
   rw [Nat.pow_succ,← Nat.mul_assoc];generalize q * 10 ^ k=P;omega
  rw [e,qw (by omega) (Nat.mod_lt _ (by omega)),nv k hq h1,ld,List.append_assoc]
theorem kn:∀ {k u:Nat},0 < k→u < 10 ^ k→nDigits u≤k
 | 0,_,h,_=>absurd h (by omega)
 | k+1,u,_,hu=>by
  by_cases h:u < 10
  ·rw [nDigits_small h];omega
  rw [nDigits_big h];have h0:k≠0:=by rintro rfl;exact h (by simpa using hu)
  have:=kn (k:=k) (u:=u / 10) (by omega) (by rw [Nat.pow_succ] at hu;omega);omega
theorem lf:∀ k,ld k 0=repeatL [48] k
 | 0=>rfl
 | k+1=>by rw [ld,lf k,repeatL_add,repeatL_one];rfl
theorem qx:∀ {k r:Nat},0 < k→r < 10 ^ k→ld k r=repeatL [48] (k - nDigits r) ++ decDigits r
 | 0,_,h,_=>absurd h (by omega)
 | k+1,r,_,hr=>by
  rw [ld];by_cases h:r < 10
  ·rw [Nat.div_eq_of_lt h,lf,nDigits_small h,decDigits_one h,Nat.mod_eq_of_lt h];rfl
  have h0:k≠0:=by rintro rfl;exact h (by simpa using hr)
  rw [qx (k:=k) (r:=r / 10) (by omega) (by rw [Nat.pow_succ] at hr;omega),nDigits_big h,List.append_assoc];congr 1
  ·congr 1;omega
  conv=>rhs;rw [decDigits,dif_neg h]
def gP (N q:Nat) (ps:List (List UInt8)):Prop:=(0 < q→decDigits N=decDigits q ++ ps.flatten)∧(q=0→decDigits N=ps.flatten)∧ps.length≤ps.flatten.length
theorem gP.start {N:Nat}(h:0 < N):gP N N []:=⟨fun _=>by simp,fun e=>absurd e (by omega),by simp⟩
theorem gP.more {N q:Nat}{ps:List (List UInt8)}(h:gP N q ps) (hq:0 < q / 1000000000) :
 gP N (q / 1000000000) ((repeatL [48] (9 - nDigits (q % 1000000000)) ++ decDigits (q % 1000000000)) :: ps):=by
 have hr:q % 1000000000 < 10 ^ 9:=Nat.mod_lt _ (by omega);have e:q / 1000000000 * 10 ^ 9+q % 1000000000=q:=by rw [Nat.mul_comm];exact Nat.div_add_mod q 1000000000
 refine ⟨fun _=>?_,fun e=>absurd e (by omega),?_⟩
 ·rw [h.1 (by omega),List.flatten_cons,← List.append_assoc,← qx (by omega) hr,← nv 9 hq hr,e]
 have h3:=h.2.2;have h4:=nDigits_pos (q % 1000000000);simp only [List.length_cons,List.flatten_cons,List.length_append,decDigits_length];omega
theorem gP.last {N q:Nat}{ps:List (List UInt8)}(h:gP N q ps) (h0:0 < q) (hq:q / 1000000000=0) :
 gP N (q / 1000000000) (decDigits (q % 1000000000) :: ps):=by
 have e:q % 1000000000=q:=Nat.mod_eq_of_lt (by omega);rw [e];refine ⟨fun e=>absurd e (by omega),fun _=>?_,?_⟩
 ·rw [h.1 h0,List.flatten_cons]
 have h3:=h.2.2;have h4:=nDigits_pos q;simp only [List.length_cons,List.flatten_cons,List.length_append,decDigits_length];omega
theorem gP.len {N q:Nat}{ps:List (List UInt8)}(h:gP N q ps):ps.flatten.length≤nDigits N∧ps.length≤nDigits N:=by
 have h3:=h.2.2
 have:ps.flatten.length≤nDigits N:=by
  rw [← decDigits_length];rcases Nat.eq_zero_or_pos q with e | e
  ·rw [h.2.1 e];exact Qr
  rw [h.1 e,List.length_append];omega
 exact ⟨this,by omega⟩
theorem mz {N n:Nat}(hn:0 < n) (h:N < 4294967296 ^ n):nDigits N≤10 * n:=by
 refine kn (by omega) (Nat.lt_of_lt_of_le h ?_);rw [Nat.pow_mul];exact Nat.pow_le_pow_left (by omega) n
theorem ej {N n K:Nat}(hK:n≤K) (h0:0 < K) (h:N < 4294967296 ^ n):nDigits N≤10 * K :=
 mz h0 (Nat.lt_of_lt_of_le h (Nat.pow_le_pow_right (by omega) hK))
theorem oE (ps:List (List UInt8)):join ps []=ps.flatten:=by
 cases ps with
 | nil=>rfl
 | cons x r=>rw [join_cons,joinTail];simp
theorem il (z:Int):itoa z=(if z < 0 then [45] else []) ++ decDigits z.natAbs:=by
 unfold itoa;split
 ·rfl
 rw [show z.toNat=z.natAbs by omega];rfl
end Bn

/- Digits one by one; texts read as numbers: plain. -/
namespace Bn
open Go.Lib
def dg (V:Nat):List UInt8:=if V=0 then [] else decDigits V
theorem sF {V:Nat}(h:0 < V):dg V=dg (V / 10) ++ [UInt8.ofNat (48+V % 10)]:=by
 unfold dg;rw [if_neg (by omega)];by_cases h1:V < 10
 ·rw [if_pos (by omega),decDigits_one h1,Nat.mod_eq_of_lt h1];rfl
 rw [if_neg (by omega)];conv=>lhs;rw [decDigits,dif_neg h1]
def DgI (N q k r:Nat) (s:List UInt8):Prop:=decDigits N=dg (q * 10 ^ (9 - k)+r) ++ s∧r < 10 ^ (9 - k)
theorem DgI.start {N Q:Nat}{s:List UInt8}(h:decDigits N=dg Q ++ s):DgI N (Q / 1000000000) 0 (Q % 1000000000) s:=by
 refine ⟨?_,Nat.mod_lt _ (by decide)⟩;rw [show Q / 1000000000 * 10 ^ (9 - 0)+Q % 1000000000=Q by rw [Nat.mul_comm];exact Nat.div_add_mod Q 1000000000];exact h
theorem DgI.step {N q k r:Nat}{s:List UInt8}(h:DgI N q k r s) (hk:k < 9) (h0:0 < r∨0 < q):DgI N q (k+1) (r / 10) ([UInt8.ofNat (48+r % 10)] ++ s):=by
 obtain ⟨h1,h2⟩:=h;have e:10 ^ (9 - k)=10 ^ (9 - (k+1)) * 10:=by rw [← Nat.pow_succ];congr 1;omega
 rw [e] at h1 h2;have hp:0 < 10 ^ (9 - (k+1)):=Nat.pow_pos (by omega);unfold DgI;generalize 10 ^ (9 - (k+1))=P at *;have e2:q * (P * 10)+r=(q * P+r / 10) * 10+r % 10:=by rw [← Nat.mul_assoc];omega
 have h3:0 < q * (P * 10)+r:=by
  rcases h0 with h | h
  ·omega
  have:=Nat.mul_pos h (show 0 < P * 10 by omega);omega
 refine ⟨?_,by omega⟩;rw [h1,sF h3,e2,show ((q * P+r / 10) * 10+r % 10) / 10=q * P+r / 10 by omega,show ((q * P+r / 10) * 10+r % 10) % 10=r % 10 by omega,List.append_assoc]
theorem uo {N Q:Nat}{s:List UInt8}(h:decDigits N=dg Q ++ s):s.length≤nDigits N:=by
 rw [← decDigits_length,h,List.length_append];omega
theorem DgI.len {N q k r:Nat}{s:List UInt8}(h:DgI N q k r s):s.length≤nDigits N:=uo h.1

/-! ### Texts read -/
def aF (c:UInt8):Bool:=decide (48≤c.toNat) && decide (c.toNat≤57)
def gq (c:UInt8):Nat:=c.toNat - 48
def ah (l:List UInt8):Nat:=l.foldl (fun a c=>a * 10+gq c) 0
theorem oG (l:List UInt8):∀ a,l.foldl (fun a c=>a * 10+gq c) a=a * 10 ^ l.length+ah l:=by
 unfold ah
 induction l with
 | nil=>intro a;simp
 | cons x r ih =>
  intro a;rw [List.foldl_cons,ih,List.foldl_cons,ih (0 * 10+gq x),List.length_cons,Nat.pow_succ,Nat.add_mul];rw [Nat.zero_mul,Nat.zero_add,Nat.mul_assoc,Nat.mul_comm 10,Nat.add_assoc]
theorem dP (a b:List UInt8):ah (a ++ b)=ah a * 10 ^ b.length+ah b:=by
 conv=>lhs;unfold ah
 rw [List.foldl_append,oG];rfl
theorem ek (a:List UInt8) (c:UInt8):ah (a ++ [c])=ah a * 10+gq c:=by
 rw [dP];simp [ah]
theorem cU:∀ {l:List UInt8},l.all aF=true→ah l < 10 ^ l.length:=by
 intro l
 induction l with
 | nil=>intro _;simp [ah]
 | cons x r ih =>
  intro h;rw [List.all_cons,Bool.and_eq_true] at h;have h1:=ih h.2
  have hx:gq x≤9:=by
   have:=h.1;unfold aF at this;simp at this;unfold gq;omega
  have e:ah (x :: r)=gq x * 10 ^ r.length+ah r:=by
   have:=dP [x] r;simpa [ah] using this
  rw [e,List.length_cons,Nat.pow_succ];have:=Nat.mul_le_mul_right (10 ^ r.length) hx;omega
def bF (l:List UInt8):List UInt8:=match l with | 45 :: r=>r | l=>l
def bS (l:List UInt8):Bool:=match l with | 45 :: _=>true | _=>false
def okZ (l:List UInt8):Bool:=decide (bF l≠[]) && (bF l).all aF && !(decide ((bF l).head?=some 48) && (decide (1 < (bF l).length) || bS l))
def dQ (l:List UInt8):Int:=if bS l then -(ah (bF l):Int) else ah (bF l)
theorem lg {d:Nat}(h:d < 10):aF (UInt8.ofNat (48+d))=true∧gq (UInt8.ofNat (48+d))=d:=by
 have e:(UInt8.ofNat (48+d)).toNat=48+d:=by simp;omega
 unfold aF gq;rw [e];simp;omega
theorem nw (n:Nat):(decDigits n).all aF=true∧ah (decDigits n)=n:=by
 induction n using Nat.strongRecOn with
 | ind n ih =>
  by_cases h:n < 10
  ·rw [decDigits_one h]
   have h1:=lg h;generalize UInt8.ofNat (48+n)=c at h1;refine ⟨by rw [List.all_cons,h1.1];rfl,?_⟩;rw [← List.nil_append [c],ek,h1.2];simp [ah]
  ·have e:decDigits n=decDigits (n / 10) ++ [UInt8.ofNat (48+n % 10)]:=by
    conv=>lhs;rw [decDigits,dif_neg h]
   have h1:=ih (n / 10) (by omega);have h2:=lg (Nat.mod_lt n (show 0 < 10 by omega));generalize UInt8.ofNat (48+n % 10)=c at h2 e;refine ⟨by rw [e,List.all_append,h1.1,List.all_cons,h2.1];rfl,?_⟩;rw [e,ek,h1.2,h2.2];omega
end Bn

/- Texts read as numbers: what the library's functions give on digits. Plain. -/
namespace Bn
open Go.Lib
theorem lh {c:UInt8}(h:aF c=true):digitVal c=some (gq c):=by
 unfold aF at h;rw [Bool.and_eq_true,decide_eq_true_eq,decide_eq_true_eq] at h;unfold digitVal gq;rw [if_pos h]
theorem mA:∀ {l:List UInt8},l.all aF=true→∀ acc,decFrom acc l=some (l.foldl (fun a c=>a * 10+gq c) acc):=by
 intro l
 induction l with
 | nil=>intro _ acc;rfl
 | cons x r ih =>
  intro h acc;rw [List.all_cons,Bool.and_eq_true] at h;rw [decFrom,lh h.1,List.foldl_cons];exact ih h.2 _
theorem qA {l:List UInt8}(h:l.all aF=true) (h0:l≠[]):atoi l=some (ah l:Int):=by
 cases l with
 | nil=>exact absurd rfl h0
 | cons x r =>
  have hx:aF x=true:=by rw [List.all_cons,Bool.and_eq_true] at h;exact h.1
  have h1:(x == 45)=false:=by
   apply Bool.eq_false_iff.2;intro e;rw [beq_iff_eq] at e;subst e;exact absurd hx (by decide)
  have h2:(x == 43)=false:=by
   apply Bool.eq_false_iff.2;intro e;rw [beq_iff_eq] at e;subst e;exact absurd hx (by decide)
  unfold atoi;dsimp only;rw [h1,h2];simp only [Bool.false_eq_true,if_false];unfold decNat;rw [if_neg (by simp),mA h];rfl
def im:List UInt8:=[48,49,50,51,52,53,54,55,56,57]
theorem li (c:UInt8):im.contains c=aF c:=by
 have h:∀ v:Fin 256,im.contains (UInt8.ofNat v)=aF (UInt8.ofNat v):=by decide +kernel
 have:=h ⟨c.toNat,c.toNat_lt⟩;simpa using this
theorem bo {p:UInt8→Bool}:∀ {l:List UInt8},l.dropWhile p=[] ↔ l.all p=true:=by
 intro l
 induction l with
 | nil=>simp
 | cons x r ih =>
  by_cases h:p x=true
  ·rw [List.dropWhile_cons_of_pos h,ih,List.all_cons,h];simp
  rw [List.dropWhile_cons_of_neg h];simp [h]
theorem em {p:UInt8→Bool}:∀ {l:List UInt8}{x:UInt8}{r:List UInt8},l.dropWhile p=x :: r→p x=false:=by
 intro l
 induction l with
 | nil=>intro x r h;simp at h
 | cons y s ih =>
  intro x r h;by_cases hy:p y=true
  ·rw [List.dropWhile_cons_of_pos hy] at h;exact ih h
  rw [List.dropWhile_cons_of_neg hy] at h;injection h with h1 h2;subst h1;simpa using hy
theorem sG {l:List UInt8}:trimS l im=[] ↔ l.all aF=true:=by
 have hp:(fun b=>im.contains b)=aF:=funext li;unfold trimS trimLeftS trimRightS;rw [hp];rw [bo,List.all_reverse];constructor
 ·intro h
  cases hd:l.reverse.dropWhile aF with
  | nil=>have:=bo.1 hd;rw [List.all_reverse] at this;exact this
  | cons x r =>
   rw [hd,List.all_cons,Bool.and_eq_true] at h;rw [em hd] at h;exact absurd h.1 (by simp)
 intro h;rw [bo.2 (by rw [List.all_reverse];exact h)];rfl
theorem er (l:List UInt8):hasPrefix l [45]=bS l:=by
 unfold hasPrefix bS
 cases l with
 | nil=>rfl
 | cons x r =>
  by_cases h:x=45
  ·subst h;rfl
  have e:(45 == x)=false:=by simp;exact fun e=>h e.symm
  simp only [List.isPrefixOf,e,Bool.false_and];split
  ·rename_i h1;injection h1 with h2;exact absurd h2 h
  rfl
theorem fB (l:List UInt8):trimPrefix l [45]=bF l:=by
 unfold trimPrefix;rw [er];unfold bS bF;split
 ·rename_i r
  rfl
 rfl
theorem oH (l:List UInt8):(bF l).length≤l.length:=by
 unfold bF;split <;> simp
theorem ko (k:Nat):10 ^ k≤4294967296 ^ k:=Nat.pow_le_pow_left (by omega) k
theorem kq {l:List UInt8}(h:l.all aF=true):ah l < 4294967296 ^ l.length:=Nat.lt_of_lt_of_le (cU h) (ko _)
theorem lj {l:List UInt8}{p:UInt8→Bool}(h:l.all p=true) (k:Nat):(l.take k).all p=true:=by
 rw [List.all_eq_true] at h ⊢;exact fun x hx=>h x (List.mem_of_mem_take hx)
theorem ll {l:List UInt8}{p:UInt8→Bool}(h:l.all p=true) (k:Nat):(l.drop k).all p=true:=by
 rw [List.all_eq_true] at h ⊢;exact fun x hx=>h x (List.mem_of_mem_drop hx)
def jg (t pre rest:List UInt8):Prop:=t=pre ++ rest∧(pre=[]∨rest.length % 9=0)
theorem jg.step {t pre rest:List UInt8}{n:Nat}(h:jg t pre rest) (h0:0 < rest.length) (hn:(rest.length - 1) % 9+1=n) :
 n≤rest.length∧n≤9∧0 < n∧jg t (pre ++ rest.take n) (rest.drop n)∧ah (pre ++ rest.take n)=ah pre * 1000000000+ah (rest.take n):=by
 have h1:n≤rest.length:=by have:=Nat.mod_le (rest.length - 1) 9;omega
 refine ⟨h1,by have:=Nat.mod_lt (rest.length - 1) (show 0 < 9 by omega);omega,by omega,⟨?_,?_⟩,?_⟩
 ·rw [List.append_assoc,List.take_append_drop];exact h.1
 ·right;rw [List.length_drop];omega
 rw [dP,List.length_take,Nat.min_eq_left h1];rcases h.2 with e | e
 ·subst e;simp [ah]
 have:n=9:=by omega
 subst this;rfl
theorem jg.start (t:List UInt8):jg t [] t:=⟨rfl,.inl rfl⟩
theorem jg.fin {t pre:List UInt8}(h:jg t pre []):pre=t:=by have:=h.1;rw [List.append_nil] at this;exact this.symm
theorem oI {l:List UInt8}(h:okZ l=true):bF l≠[]∧(bF l).all aF=true∧¬ ((bF l).head?=some 48∧(1 < (bF l).length∨bS l=true)):=by
 unfold okZ at h;simp at h;refine ⟨h.1.1,by simpa using h.1.2,fun ⟨a,b⟩=>?_⟩;rcases h.2 with e | e
 ·exact e a
 rcases b with b | b
 ·omega
 rw [b] at e;exact absurd e.2 (by simp)
end Bn

/- Division bit by bit: plain numbers. -/
namespace Bn
def mB (l L:List Nat) (b k cr:Nat):Prop:=(∀ i,k≤i→wd L i=wd l i)∧Sm (wd L) k+cr * 4294967296 ^ k=2 * Sm (wd l) k+b
theorem mB.start (l:List Nat) (b:Nat):mB l l b 0 b:=⟨fun _ _=>rfl,by simp [Sm]⟩
theorem mB.step {l L:List Nat}{b k cr x:Nat}(h:mB l L b k cr) (hx:wd l k=x) (hlt:x < 4294967296) (hk:k < L.length) :
 mB l (L.set k (x * 2 % 4294967296+cr)) b (k+1) (x / 2147483648):=by
 refine ⟨fun i hi=>?_,?_⟩
 ·rw [bA,if_neg (by omega)];exact h.1 i (by omega)
 rw [bD _ _ _ hk,Sm,hx,Nat.pow_succ];have h2:=h.2;have e:x * 2 % 4294967296+x / 2147483648 * 4294967296=2 * x:=by omega
 have e2:x * 2 % 4294967296 * 4294967296 ^ k+x / 2147483648 * (4294967296 ^ k * 4294967296)=2 * (x * 4294967296 ^ k):=by
  have:(x * 2 % 4294967296+x / 2147483648 * 4294967296) * 4294967296 ^ k=2 * x * 4294967296 ^ k:=by rw [e]
  rw [Nat.add_mul] at this;have e3:x / 2147483648 * (4294967296 ^ k * 4294967296)=x / 2147483648 * 4294967296 * 4294967296 ^ k:=by grind
  rw [e3,← Nat.mul_assoc];exact this
 rw [Nat.add_mul];omega
theorem mB.fin {l L:List Nat}{b k cr:Nat}(h:mB l L b k cr) (hl:l.length=k) (hL:L.length=k) (hs:2 * val l+b < 4294967296 ^ k):val L=2 * val l+b:=by
 have h2:=h.2;rw [bi L (by omega),bi l (by omega)] at h2;rcases Nat.eq_zero_or_pos cr with e | e
 ·subst e;omega
 have:1 * 4294967296 ^ k≤cr * 4294967296 ^ k:=Nat.mul_le_mul_right _ e;omega
end Bn

/- Roots: plain numbers. -/
namespace Bn
theorem up (k:Nat):2 ^ k * 2 ^ k=2 ^ (2 * k):=by rw [← Nat.pow_add];congr 1;omega
def io (M r i:Nat):Prop:=r * r≤M∧M < (r+2 ^ i) * (r+2 ^ i)
theorem io.start {M N:Nat}(h:M < 2 ^ N):io M 0 (N / 2+1):=by
 refine ⟨Nat.zero_le _,?_⟩;rw [Nat.zero_add,up];exact Nat.lt_of_lt_of_le h (Nat.pow_le_pow_right (by omega) (by omega))
theorem io.no {M r i:Nat}(h:io M r (i+1)) (hx:¬ (r+2 ^ i) * (r+2 ^ i)≤M):io M r i:=⟨h.1,by omega⟩
theorem io.fin {M r:Nat}(h:io M r 0):isq M=r:=tS h.1 (by have:=h.2;simpa using this)
end Bn

/- Walks: integer.Root. -/
namespace Go.Proofs.YtfilnhompchciaaGreatDoor
open Go Go.RowKit Bn
attribute [local go_sem ↓] Go.wp_at_zero Go.wp_at_succ

def fC (w:World) (v:Value) (z:Int) (k:Nat) (e:Ending) (w':World):Prop:=∃ b A n c,e=.returned (.tuple #[.agg #[.bool b,.slice A n c],v])∧IV w' b A n c z k∧Below w.heap.size w w'

def Tab (w : World) : Prop := Lib.TabIs Tryz.prog w "internal/strconv.uint64pow10" .u64 Lib.pow10Tab
theorem Tab.belw {w w':World}(h:Tab w) (hb:Below w.heap.size w w'):Tab w':=Lib.tabBelow_of_tabIs h w' hb
abbrev af (l:List UInt8):Value:=.string ⟨l.toArray⟩
def strs (ps:List (List UInt8)):List Value:=ps.map af
theorem fD (ps:List (List UInt8)):(strs ps).length=ps.length:=by simp [strs]
theorem lm (ps:List (List UInt8)):∀ u∈strs ps,u.oneCell'=true:=by
 intro u hu;simp only [strs,List.mem_map] at hu;obtain ⟨x,_,rfl⟩:=hu;rfl
theorem ln:(Tryz.prog.info? 9).map (fun i=>(i.zero,i.size,i.bytes))=some (some (.string ⟨#[]⟩),1,16):=by kernel_rfl
theorem mC (w:World) (k:Nat) (os:Array Obj):Below w.heap.size w (Sort.grow (w.drewN k) os) :=
 ⟨rfl,rfl,rfl,by simp [Sort.grow],fun j hj=>by simp [Sort.grow,Array.getElem?_append_left hj]⟩
theorem ip (w:World) (n:Int) (h0:-9223372036854775808≤n) (h1:n≤9223372036854775807) (ht:Tab w) :
 Calls Tryz.prog 28 #[.int .i64 n] w (aE w (af (Lib.itoa n))) :=
 (Tryz.strconv_Itoa n h0 h1 w ht).mono fun e w' ⟨he,k,os,hw⟩=>⟨he,by rw [hw];exact mC w k os⟩
def gw (w:World) (p:Value) (ps:List (List UInt8)):Prop:=(ps=[]∧p=.slice none 0 0)∨(ps≠[]∧∃ g cap,p=.slice (some ⟨g,0,none⟩) ps.length cap∧g < w.heap.size∧ps.length≤cap∧∀ j,j < ps.length→w.cell? ⟨g,j,none⟩=(strs ps)[j]?)
theorem gw.belw {w w':World}{p:Value}{ps:List (List UInt8)}(h:gw w p ps) (hb:Below w.heap.size w w'):gw w' p ps:=by
 rcases h with h | ⟨h0,g,cap,h1,h2,h3,h4⟩
 ·exact .inl h
 refine .inr ⟨h0,g,cap,h1,Nat.lt_of_lt_of_le h2 hb.size,h3,fun j hj=>?_⟩;rw [← h4 j hj];simp only [World.cell?,hb.block g h2]
theorem qB (w:World) (p:Value) (ps:List (List UInt8)) (h:gw w p ps) (hlen:ps.flatten.length≤140737488355328) (hN:ps.length≤140737488355328) :
 Calls Tryz.prog 62 #[p,.string ⟨#[]⟩] w (aE w (af ps.flatten)):=by
 rcases h with ⟨rfl,rfl⟩ | ⟨h0,g,cap,rfl,h2,h3,h4⟩
 ·exact (Tryz.strings_Join_none none 0 ⟨#[]⟩ w).mono fun e w' ⟨he,hw⟩=>⟨he,hw ▸ Below.refl _ _⟩
 ·have hm:(ps.map fun l=>(⟨l.toArray⟩:ByteArray)).map (·.data.toList)=ps:=by
   rw [List.map_map];exact (List.map_congr_left (fun a _=>by simp)).trans (List.map_id ps)
  have hl:(ps.map fun l=>(⟨l.toArray⟩:ByteArray)).length=ps.length:=by simp
  have hJ:Lib.join ((ps.map fun l=>(⟨l.toArray⟩:ByteArray)).map (·.data.toList)) (⟨#[]⟩:ByteArray).data.toList=ps.flatten:=by rw [hm];exact oE ps
  have:=Tryz.strings_Join g 0 cap (ps.map fun l=>⟨l.toArray⟩) ⟨#[]⟩ w (fun j x hx=>by
   have hj:j < ps.length:=by have:=(List.getElem?_eq_some_iff.1 hx).1;rw [hl] at this;exact this
   rw [Nat.zero_add,h4 j hj];rw [List.getElem?_map] at hx;unfold strs;rw [List.getElem?_map]
   cases hp:ps[j]? with
   | none=>rw [hp] at hx;simp at hx
   | some y=>rw [hp] at hx;simp at hx;subst hx;rfl) h2 (by rw [hl];exact hN) (by rw [hl];exact h3) (by rw [hJ];exact hlen)
  rw [hJ,hl] at this;exact this
theorem jG (a b:List UInt8):((⟨a.toArray⟩:ByteArray) ++ ⟨b.toArray⟩)=⟨(a ++ b).toArray⟩:=by
 apply ByteArray.ext;simp [ByteArray.data_append]
theorem kr (w:World) (z:Int) (r:Nat) (d:List UInt8) (hz:z=r) (hr:r < 1000000000) (hd:Lib.decDigits r=d) (ht:Tab w) :
 Calls Tryz.prog 28 #[.int .i64 z] w (aE w (af d)):=by
 subst hz hd;rw [← Lib.itoa_nonneg];exact ip w r (by omega) (by omega) ht
theorem iq (w:World) (z:Int) (j:Nat) (d:List UInt8) (hz:z=j) (hj:j < 1000000) (hd:Lib.repeatL [48] j=d) :
 Calls Tryz.prog 65 #[.string ⟨#[48]⟩,.int .i64 z] w (aE w (af d)):=by
 subst hz hd;exact Tryz.strings_Repeat ⟨#[48]⟩ j w (by omega) (by show 1 * j≤_;omega)
theorem gV (w:World) (A:Option Addr) (n c q r q':Nat) (wa:Wd w A n c (aB q)) (hn:n≤1099511627776) (hr:q % 1000000000=r) (hq:q / 1000000000=q') :
 Calls Tryz.prog 220 #[.slice A n c,.int .u32 1000000000] w fun e w'=>∃ A1 n1 c1,e=.returned (.tuple #[.slice A1 n1 c1,.int .u32 (r:Nat)])∧Wd w' A1 n1 c1 (aB q')∧Below w.heap.size w w':=by
 have:=nl w A n c (aB q) wa hn 1000000000 (by omega) (by omega);rw [ak,hr,hq] at this;exact this
theorem gw.one (w:World) (S:List UInt8):gw (w.alloc (.cells #[af S] 9)) (.slice (some ⟨w.heap.size,0,none⟩) 1 1) [S]:=by
 refine .inr ⟨by simp,_,_,rfl,by simp,Qr,fun j hj=>?_⟩;rw [World.cell?_alloc_new];have:j=0:=by simpa using hj
 subst this;rfl
theorem gw.own {w:World}{base g cap:Nat}{S:List UInt8}{ps:List (List UInt8)}(h:w.ownsRow base 9 1 (.slice (some ⟨g,0,none⟩) (1+ps.length) cap) (1+ps.length) ([af S] ++ strs ps)) (hg:g < w.heap.size) :
 gw w (.slice (some ⟨g,0,none⟩) (1+ps.length) cap) (S :: ps):=by
 refine .inr ⟨by simp,g,cap,by rw [List.length_cons,Nat.add_comm],hg,?_,fun j hj=>?_⟩
 ·rcases h.2 with ⟨e,_⟩ | ⟨g',c',cur,e,_,_,hc,_⟩
  ·exact absurd e (by simp)
  injection e with _ _ e2;rw [List.length_cons];omega
 rw [h.cellAt j (by rw [List.length_cons] at hj;omega)];rfl
def vA (N:Nat) (W0 wr:World) (m p:Value):Prop:=∃ A1 n1 c1 q ps,m=.slice A1 n1 c1∧n1≤1099511627000∧si (Wd wr A1 n1 c1 (aB q)∧gP N q ps∧gw wr p ps)∧Below W0.heap.size W0 wr
theorem uq (w:World) (b:Bool) (A n c l) (wa:Wd w A n c l) (hn:n≤1000000000) (ht:Tab w) :
 Calls Tryz.prog 182 #[.agg #[.bool b,.slice A n c]] w (aE w (af (Lib.itoa (WD.z ⟨b,l⟩)))):=by
 have HL:=Qh wa.2.1;have hcm:aK (WD.m ⟨b,l⟩):=WD.canon_m wa.1;obtain ⟨i0,hi0,hz0,hz1,hz2⟩:=info_parts ln;obtain ⟨M,hM⟩:∃ M,WD.m ⟨b,l⟩=aB M:=⟨_,(cV hcm).symm⟩;have hab:(WD.z ⟨b,l⟩).natAbs=M:=by rw [pX,hM,ak]
 obtain ⟨T,hT⟩:∃ T,T=Lib.itoa (WD.z ⟨b,l⟩):=⟨_,rfl⟩;rw [il,hab] at hT;rw [il,hab,← hT];have HT:=Qh hT;have HTab:=Qh ht;have HM:=Qh hM;have HA:=Qh hab;clear hT ht hM hab hcm;have b0:Below w.heap.size w (w.alloc (.cells #[.bool b,.slice A n c] 194)):=(Below.refl _ _).alloc Qr _;have x0:Blk (w.alloc (.cells #[.bool b,.slice A n c] 194)) w.heap.size 194 #[.bool b,.slice A n c]:=am _ _ _ rfl;by_cases hM0:M=0
 ·subst hM0
  have hz:(WD.z ⟨b,l⟩) < 0→False:=by have:=HA.out;omega
  have hT0:T=[48]:=by rw [HT.out,if_neg (fun h=>hz h)];exact Lib.decDigits_one (by omega)
  subst hT0;go_in;go_wp2_with (go_at_call 194;(with_reducible refine (dA _ b A n c l ?_ ?_).mono ?_);(exact wa.belw b0);(omega);rintro e w1 ⟨A1,n1,c1,rfl,h1,hb1⟩;rw [HM.out,ax] at h1;obtain rfl:n1=0:=h1.2.1);go_ret;exact ⟨rfl,b0.trans (hb1.mono b0.size)⟩
 have hMp:0 < M:=Nat.pos_of_ne_zero hM0;have HMP:=Qh hMp;clear hM0 hMp;go_in;go_wp2_with (go_at_call 194;(with_reducible refine (dA _ b A n c l ?_ ?_).mono ?_);(exact wa.belw b0);(omega);rintro e w1 ⟨A1,n1,c1,rfl,h1,hb1⟩;have hn1:n1≤1000000000:=h1.m_len (by rw [← HL.out];exact hn);rw [HM.out] at h1;have e1:((n1:Int) == 0)=false:=(by have h9:n1≠0:=(fun e=>by have h8:=h1.2.1;rw [e] at h8;exact absurd (aL.1 (List.eq_nil_of_length_eq_zero h8.symm)) (by have:=HMP.out;omega));simp;exact h9));clear e1;go_loopw [3,4] (fun mv pv wr=>vA M w1 wr mv pv) (fun mv _ wr=>valOf wr mv)
 case atStart=>exact ⟨A1,n1,c1,M,[],rfl,by omega,⟨h1,gP.start HMP.out,.inl ⟨rfl,rfl⟩⟩,aa _⟩
 case round =>
  obtain ⟨A3,n3,c3,q,ps,rfl,hn3,hK,rr⟩:=hrel;have hm5:valOf wr (.slice A3 n3 c3)=q:=by rw [hK.1.valOf,ak]
  by_cases hq0:q=0
  ·subst hq0
   have h0:n3=0:=by have:=hK.1.2.1;rw [ax] at this;exact this
   subst h0;have hps:M=M∧Lib.decDigits M=ps.flatten:=⟨rfl,hK.2.1.2.1 rfl⟩;have hln:=hK.2.1.len;have hnd:Lib.nDigits M≤10 * 1000000000:=ej hn1 (by omega) (by have:=h1.vlt Qr;rw [ak] at this;exact this);have x1:Blk w1 w.heap.size 194 #[.bool b,.slice A n c]:=x0.below hb1 (by simp);have x2:=x1.below rr x1.lt;have bw:=((b0.trans (hb1.mono b0.size)).trans (rr.mono (by have:=hb1.size;have:=b0.size;omega)));have HX:=Qh x2;have HP:=Qh hps.2;have HA2:=Qh (show (WD.z ⟨b,l⟩)=sgn (WD.s ⟨b,l⟩) M by rw [WD.z_eq,HM.out,ak]);clear hps x1 x2;cases hs:WD.s ⟨b,l⟩
   ·have HS:=Qh hs
    have HT2:=Qh (show T=ps.flatten by rw [HT.out,HP.out,HA2.out,hs,if_neg (by simp [sgn])];rfl);clear hs
    go_wp2_with (first
     | (go_at_call 62;(with_reducible refine (qB _ _ ps ?_ ?_ ?_).mono ?_);(exact hK.2.2);omega;omega;rintro e w2 ⟨rfl,hb2⟩;have x3:=HX.out.below hb2 HX.out.lt;obtain ⟨c0,c1⟩:=x3.c2)
     | (go_at_call 195;(with_reducible refine (dB _ b A n c l false ?_ ?_ HS.out).mono ?_);(exact wa.belw (bw.trans (hb2.mono bw.size)));omega;rintro e w3 ⟨rfl,hb3⟩))
    go_ret;refine ⟨by rw [HT2.out];rfl,(bw.trans (hb2.mono bw.size)).trans (hb3.mono (by have:=hb2.size;have:=bw.size;omega))⟩
   have HS:=Qh hs;have HT2:=Qh (show T=45 :: ps.flatten by rw [HT.out,HP.out,HA2.out,hs,if_pos (by simp [sgn];have:=HMP.out;omega)];rfl);clear hs;have hsum:(ps.map List.length).sum≤Lib.nDigits M:=by rw [← List.length_flatten];exact hln.1
   go_wp2_with (first
    | (go_at_call 62;(with_reducible refine (qB _ _ ps ?_ ?_ ?_).mono ?_);(exact hK.2.2);omega;omega;rintro e w2 ⟨rfl,hb2⟩;have x3:=HX.out.below hb2 HX.out.lt;obtain ⟨c0,c1⟩:=x3.c2)
    | (go_at_call 195;(with_reducible refine (dB _ b A n c l true ?_ ?_ HS.out).mono ?_);(exact wa.belw (bw.trans (hb2.mono bw.size)));omega;rintro e w3 ⟨rfl,hb3⟩))
   go_ret;refine ⟨?_,(bw.trans (hb2.mono bw.size)).trans (hb3.mono (by have:=hb2.size;have:=bw.size;omega))⟩;rw [HT2.out];exact congrArg (fun x=>Ending.returned (.string x)) (jG [45] ps.flatten)
  have hqp:0 < q:=Nat.pos_of_ne_zero hq0;have hn30:n3≠0:=fun e=>hq0 (aL.1 (List.eq_nil_of_length_eq_zero (by rw [← hK.1.2.1];exact e)))
  have e1:decide (0 < n3)=true:=by simp;omega
  obtain ⟨r,hr⟩:∃ r,q % 1000000000=r:=⟨_,rfl⟩;have hr9:r < 1000000000:=by rw [← hr];exact Nat.mod_lt _ (by omega)
  obtain ⟨d,hd⟩:∃ d,Lib.decDigits r=d:=⟨_,rfl⟩;obtain ⟨k,hk⟩:∃ k,d.length=k:=⟨_,rfl⟩;have hkn:Lib.nDigits r=k:=by rw [← hk,← hd,Lib.decDigits_length]
  have hk9:k≤9:=by rw [← hkn];exact kn (by omega) hr9
  obtain ⟨j,hj⟩:∃ j,k+j=9:=⟨9 - k,by omega⟩;obtain ⟨z,hz⟩:∃ z,Lib.repeatL [48] j=z:=⟨_,rfl⟩;have hzl:z.length=j:=by rw [← hz,Lib.repeatL_length];simp
  obtain ⟨q',hq'⟩:∃ q',q / 1000000000=q':=⟨_,rfl⟩;have HR:=Qh hr;have HD:=Qh hd;have HZ:=Qh hz;have HQ:=Qh hq';have HQP:=Qh hqp;have HKN:=Qh hkn;have hlt:q' < q:=by rw [← hq'];omega
  have HLT:=Qh hlt;have bw:=((b0.trans (hb1.mono b0.size)).trans (rr.mono (by have:=hb1.size;have:=b0.size;omega)));have hnd:Lib.nDigits M≤10 * 1000000000:=ej hn1 (by omega) (by have:=h1.vlt Qr;rw [ak] at this;exact this);have hln:=hK.2.1.len;clear hr hd hz hq' hq0 hqp hn30 hkn hlt;by_cases h0:q'=0
  ·subst h0
   by_cases hp0:ps=[]
   ·subst hp0
    have hu4:u4=.slice none 0 0:=by
     rcases hK.2.2 with h | h
     ·exact h.2
     exact absurd rfl h.1
    subst hu4
    go_wp2_with (first
     | (go_at_call 220;(with_reducible refine (gV _ A3 n3 c3 q r 0 ?_ ?_ HR.out HQ.out).mono ?_);(exact hK.1);omega;rintro e w2 ⟨A5,n5,c5,rfl,h5,hb2⟩;obtain rfl:n5=0:=(by have h9:=h5.2.1;rw [ax] at h9;exact h9))
     | (go_at_call 28;(with_reducible refine (kr _ _ r d ?_ ?_ HD.out ?_).mono ?_);(first | rfl | omega);omega;(exact HTab.out.belw (bw.trans (hb2.mono bw.size)));rintro e w3 ⟨rfl,hb3⟩)
    )
    have bl:Below wr.heap.size wr w3:=(hb2.mono Qr).trans (hb3.mono hb2.size);have b5:Below w2.heap.size w2 w3:=hb3;go_roundw
    case rel =>
     refine ⟨A5,0,c5,0,[d],rfl,?_,⟨(h5.belw b5).belw ((Below.refl _ _).alloc Qr _),by have:=hK.2.1.last HQP.out HQ.out;rw [HQ.out,HR.out,HD.out] at this;exact this,?_⟩,(rr.trans (bl.mono rr.size)).alloc (Nat.le_trans rr.size bl.size) _⟩
     ·omega
     have:=gw.one w3 d;exact this
    case measure =>
     rw [((h5.belw b5).belw ((Below.refl _ _).alloc Qr _)).valOf,hm5,ak];exact HLT.out
   have hp1:0 < ps.length:=List.length_pos_iff.2 hp0
   obtain ⟨g,cap,hu4,hg,hcap,hcells0⟩:∃ g cap,u4=.slice (some ⟨g,0,none⟩) ps.length cap∧g < wr.heap.size∧ps.length≤cap∧∀ j,j < ps.length→wr.cell? ⟨g,j,none⟩=(strs ps)[j]?:=by
    rcases hK.2.2 with h | h
    ·exact absurd h.1 hp0
    exact h.2
   subst hu4
   have hcells:∀ w',Below wr.heap.size wr w'→∀ S j u,(strs ps)[j]?=some u→(w'.alloc (.cells #[S] 9)).cell? ((⟨g,0,none⟩:Addr).add j)=some u:=by
    intro w' hb S j u hu;have hj:j < ps.length:=by have:=(List.getElem?_eq_some_iff.1 hu).1;rw [fD] at this;exact this
    rw [Lib.add_plain,Nat.zero_add,← hu,← hcells0 j hj];simp only [World.cell?,Below.heap_alloc _ _ _ (Nat.lt_of_lt_of_le hg hb.size),hb.block g hg]
   go_wp2_with (first
    | (go_at_call 220;(with_reducible refine (gV _ A3 n3 c3 q r 0 ?_ ?_ HR.out HQ.out).mono ?_);(exact hK.1);omega;rintro e w2 ⟨A5,n5,c5,rfl,h5,hb2⟩;obtain rfl:n5=0:=(by have h9:=h5.2.1;rw [ax] at h9;exact h9))
    | (go_at_call 28;(with_reducible refine (kr _ _ r d ?_ ?_ HD.out ?_).mono ?_);(first | rfl | omega);omega;(exact HTab.out.belw (bw.trans (hb2.mono bw.size)));rintro e w3 ⟨rfl,hb3⟩)
    | (at_builtin;refine wpList_append_lies _ rfl _ _ _ rfl w3.heap.size 9 i0 (.string ⟨#[]⟩) 1 16 Tryz.underlying113 hi0 hz0 hz1 hz2 rfl (by omega) _ 1 [af d] rfl (World.ownsRow_lit w3 #[af d] 1 Qr (by unfold maxLen;omega) rfl) ⟨g,0,none⟩ ps.length cap (strs ps) rfl (by rw [fD,Nat.mul_one]) ?_ (lm ps) hp1 (by unfold maxLen;omega) (by omega) (by simp) (w3.heap.size+1) (by simp) ?_;(exact hcells _ ((hb2.mono Qr).trans (hb3.mono hb2.size)) _);intro gx cap2 w5 hown5 hgrow hat hlt5)
   )
   have bl:Below wr.heap.size wr w3:=(hb2.mono Qr).trans (hb3.mono hb2.size);have b5:Below w2.heap.size w2 w3:=hb3;have bg:Below w3.heap.size w3 w5:=((Below.refl _ _).alloc Qr _).grown hgrow (by simp) (cX (World.ownsRow_lit (e:=9) (size:=1) w3 #[af d] 1 Qr (by unfold maxLen;omega) rfl));have bgr:Below w1.heap.size w1 w5:=((rr.trans (bl.mono rr.size)).alloc (Nat.le_trans rr.size bl.size) _).grown hgrow (by have:=rr.size;have:=bl.size;simp;omega) (fun k hk=>Nat.le_trans (Nat.le_trans rr.size bl.size) ((cX (World.ownsRow_lit (e:=9) (size:=1) w3 #[af d] 1 Qr (by unfold maxLen;omega) rfl)) k hk));go_roundw
   case rel =>
    refine ⟨A5,0,c5,0,d :: ps,rfl,?_,⟨(h5.belw b5).belw bg,by have:=hK.2.1.last HQP.out HQ.out;rw [HQ.out,HR.out,HD.out] at this;exact this,?_⟩,bgr⟩
    ·omega
    refine gw.own (base:=w3.heap.size) ?_ hlt5;exact hown5
   case measure =>
    rw [((h5.belw b5).belw bg).valOf,hm5,ak];exact HLT.out
  by_cases hp0:ps=[]
  ·subst hp0
   have hu4:u4=.slice none 0 0:=by
    rcases hK.2.2 with h | h
    ·exact h.2
    exact absurd rfl h.1
   subst hu4
   go_wp2_with (first
    | (go_at_call 220;(with_reducible refine (gV _ A3 n3 c3 q r q' ?_ ?_ HR.out HQ.out).mono ?_);(exact hK.1);omega;rintro e w2 ⟨A5,n5,c5,rfl,h5,hb2⟩;have e5:decide (0 < n5)=true:=(by have:n5≠0:=(fun e=>h0 (aL.1 (List.eq_nil_of_length_eq_zero (by rw [← h5.2.1];exact e))));simp;omega))
    | (go_at_call 28;(with_reducible refine (kr _ _ r d ?_ ?_ HD.out ?_).mono ?_);(first | rfl | omega);omega;(exact HTab.out.belw (bw.trans (hb2.mono bw.size)));rintro e w3 ⟨rfl,hb3⟩)
    | (go_at_call 65;(with_reducible refine (iq _ _ j z ?_ ?_ HZ.out).mono ?_);omega;omega;rintro e w4 ⟨rfl,hb4⟩)
   )
   have bl:Below wr.heap.size wr w4:=((hb2.mono Qr).trans (hb3.mono hb2.size)).trans (hb4.mono (Nat.le_trans hb2.size hb3.size));have b5:Below w2.heap.size w2 w4:=hb3.trans (hb4.mono hb3.size);go_roundw
   case rel =>
    refine ⟨A5,n5,c5,q',[(z ++ d)],rfl,?_,⟨(h5.belw b5).belw ((Below.refl _ _).alloc Qr _),by have:=hK.2.1.more (by rw [HQ.out];omega);rw [HQ.out,HR.out,HKN.out,HD.out,show 9 - k=j by omega,HZ.out] at this;exact this,?_⟩,(rr.trans (bl.mono rr.size)).alloc (Nat.le_trans rr.size bl.size) _⟩
    ·rw [h5.2.1];exact Nat.le_trans (ay (Nat.lt_trans (by first | exact HLT.out | (have:=HLT.out;omega)) (by have:=hK.1.vlt Qr;rw [ak] at this;exact this))) hn3
    have:=gw.one w4 (z ++ d);rw [show af (z ++ d)=.string (⟨z.toArray⟩ ++ ⟨d.toArray⟩) by rw [jG]] at this;exact this
   case measure =>
    rw [((h5.belw b5).belw ((Below.refl _ _).alloc Qr _)).valOf,hm5,ak];exact HLT.out
  have hp1:0 < ps.length:=List.length_pos_iff.2 hp0
  obtain ⟨g,cap,hu4,hg,hcap,hcells0⟩:∃ g cap,u4=.slice (some ⟨g,0,none⟩) ps.length cap∧g < wr.heap.size∧ps.length≤cap∧∀ j,j < ps.length→wr.cell? ⟨g,j,none⟩=(strs ps)[j]?:=by
   rcases hK.2.2 with h | h
   ·exact absurd h.1 hp0
   exact h.2
  subst hu4
  have hcells:∀ w',Below wr.heap.size wr w'→∀ S j u,(strs ps)[j]?=some u→(w'.alloc (.cells #[S] 9)).cell? ((⟨g,0,none⟩:Addr).add j)=some u:=by
   intro w' hb S j u hu;have hj:j < ps.length:=by have:=(List.getElem?_eq_some_iff.1 hu).1;rw [fD] at this;exact this
   rw [Lib.add_plain,Nat.zero_add,← hu,← hcells0 j hj];simp only [World.cell?,Below.heap_alloc _ _ _ (Nat.lt_of_lt_of_le hg hb.size),hb.block g hg]
  go_wp2_with (first
   | (go_at_call 220;(with_reducible refine (gV _ A3 n3 c3 q r q' ?_ ?_ HR.out HQ.out).mono ?_);(exact hK.1);omega;rintro e w2 ⟨A5,n5,c5,rfl,h5,hb2⟩;have e5:decide (0 < n5)=true:=(by have:n5≠0:=(fun e=>h0 (aL.1 (List.eq_nil_of_length_eq_zero (by rw [← h5.2.1];exact e))));simp;omega))
   | (go_at_call 28;(with_reducible refine (kr _ _ r d ?_ ?_ HD.out ?_).mono ?_);(first | rfl | omega);omega;(exact HTab.out.belw (bw.trans (hb2.mono bw.size)));rintro e w3 ⟨rfl,hb3⟩)
   | (go_at_call 65;(with_reducible refine (iq _ _ j z ?_ ?_ HZ.out).mono ?_);omega;omega;rintro e w4 ⟨rfl,hb4⟩)
   | (at_builtin;refine wpList_append_lies _ rfl _ _ _ rfl w4.heap.size 9 i0 (.string ⟨#[]⟩) 1 16 Tryz.underlying113 hi0 hz0 hz1 hz2 rfl (by omega) _ 1 [.string (⟨z.toArray⟩ ++ ⟨d.toArray⟩)] rfl (World.ownsRow_lit w4 #[.string (⟨z.toArray⟩ ++ ⟨d.toArray⟩)] 1 Qr (by unfold maxLen;omega) rfl) ⟨g,0,none⟩ ps.length cap (strs ps) rfl (by rw [fD,Nat.mul_one]) ?_ (lm ps) hp1 (by unfold maxLen;omega) (by omega) (by simp) (w4.heap.size+1) (by simp) ?_;(exact hcells _ (((hb2.mono Qr).trans (hb3.mono hb2.size)).trans (hb4.mono (Nat.le_trans hb2.size hb3.size))) _);intro gx cap2 w5 hown5 hgrow hat hlt5)
  )
  have bl:Below wr.heap.size wr w4:=((hb2.mono Qr).trans (hb3.mono hb2.size)).trans (hb4.mono (Nat.le_trans hb2.size hb3.size));have b5:Below w2.heap.size w2 w4:=hb3.trans (hb4.mono hb3.size);have bg:Below w4.heap.size w4 w5:=((Below.refl _ _).alloc Qr _).grown hgrow (by simp) (cX (World.ownsRow_lit (e:=9) (size:=1) w4 #[.string (⟨z.toArray⟩ ++ ⟨d.toArray⟩)] 1 Qr (by unfold maxLen;omega) rfl));have bgr:Below w1.heap.size w1 w5:=((rr.trans (bl.mono rr.size)).alloc (Nat.le_trans rr.size bl.size) _).grown hgrow (by have:=rr.size;have:=bl.size;simp;omega) (fun k hk=>Nat.le_trans (Nat.le_trans rr.size bl.size) ((cX (World.ownsRow_lit (e:=9) (size:=1) w4 #[.string (⟨z.toArray⟩ ++ ⟨d.toArray⟩)] 1 Qr (by unfold maxLen;omega) rfl)) k hk));go_roundw
  case rel =>
   refine ⟨A5,n5,c5,q',(z ++ d) :: ps,rfl,?_,⟨(h5.belw b5).belw bg,by have:=hK.2.1.more (by rw [HQ.out];omega);rw [HQ.out,HR.out,HKN.out,HD.out,show 9 - k=j by omega,HZ.out] at this;exact this,?_⟩,bgr⟩
   ·rw [h5.2.1];exact Nat.le_trans (ay (Nat.lt_trans HLT.out (by have:=hK.1.vlt Qr;rw [ak] at this;exact this))) hn3
   refine gw.own (base:=w4.heap.size) ?_ hlt5;rw [show af (z ++ d)=.string (⟨z.toArray⟩ ++ ⟨d.toArray⟩) by rw [jG]];exact hown5
  case measure =>
   rw [((h5.belw b5).belw bg).valOf,hm5,ak];exact HLT.out

theorem aI (l:List UInt8):(⟨l.toArray⟩:ByteArray).toList=l:=by rw [Lib.toList_data]
theorem ai (l:List UInt8):(⟨l.toArray⟩:ByteArray).size=l.length:=rfl
theorem gN (l:List UInt8) (a b:Nat):(⟨l.toArray⟩:ByteArray).extract a b=⟨((l.drop a).take (b - a)).toArray⟩:=by
 apply ByteArray.ext;rw [ByteArray.data_extract];simp
theorem aV (w:World) (l:List UInt8) (m:Bool) (hm:bS l=m):Calls Tryz.prog 105 #[af l,.string ⟨#[45]⟩] w (aE w (.bool m)):=by
 subst hm;refine (Tryz.strings_HasPrefix ⟨l.toArray⟩ ⟨#[45]⟩ w).mono fun e w' ⟨he,hw⟩=>⟨?_,hw ▸ aa _⟩
 rw [he];exact congrArg (fun x=>Ending.returned (.bool x)) (er l)
theorem jH (w:World) (l t:List UInt8) (ht:bF l=t):Calls Tryz.prog 223 #[af l,.string ⟨#[45]⟩] w (aE w (af t)):=by
 subst ht;refine (Tryz.strings_TrimPrefix ⟨l.toArray⟩ ⟨#[45]⟩ w).mono fun e w' ⟨he,hw⟩=>⟨?_,hw ▸ aa _⟩
 rw [he];exact congrArg (fun x:List UInt8=>Ending.returned (af x)) (fB l)
theorem qC (w:World) (t x:List UInt8) (hn:t.length≤1000000) (hx:Lib.trimS t im=x):Calls Tryz.prog 91 #[af t,.string ⟨#[48,49,50,51,52,53,54,55,56,57]⟩] w (aE w (af x)):=by
 subst hx;exact Any.strings_Trim_laid Tryz.lays160 (by kernel_rfl) ⟨t.toArray⟩ ⟨#[48,49,50,51,52,53,54,55,56,57]⟩ w (by show t.length≤_;omega) (by decide) (ascii_of_all (by decide))
theorem mD (w:World) (t:List UInt8) (x:Nat) (hn:t.length≤9) (h0:t≠[]) (ha:t.all aF=true) (hx:ah t=x):Calls Tryz.prog 90 #[af t] w (aE w (.tuple #[.int .i64 (x:Nat),.nilIface])):=by
 subst hx;refine (Tryz.strconv_Atoi ⟨t.toArray⟩ (ah t:Nat) (by show t.length≤18;omega) (qA ha h0) w).mono fun e w' ⟨he,t,hw⟩=>⟨he,?_⟩
 rw [hw];exact ⟨rfl,rfl,rfl,by rw [Lib.bytesWorld_size];omega,fun j hj=>Lib.bytesWorld_at_old _ _ _ j hj⟩
def qD (T:List UInt8) (W0 wr:World) (tv mv:Value):Prop:=∃ pre rest A1 n1 c1,tv=af rest∧mv=.slice A1 n1 c1∧n1≤65536∧rest.length≤65536∧si (jg T pre rest∧pre.all aF=true∧rest.all aF=true∧Wd wr A1 n1 c1 (aB (ah pre)))∧Below W0.heap.size W0 wr
def qE:Value→Nat
  | .string s=>s.size
  | _=>0
theorem qF (w:World) (A:Option Addr) (n c x:Nat) (wa:Wd w A n c (aB x)) (hn:n≤1099511627776) (A':Option Addr) (n' c' y:Nat) (wb:Wd w A' n' c' (aB y)) (hn':n'≤1099511627776) :
 Calls Tryz.prog 224 #[.slice A n c,.slice A' n' c'] w (ia w (aB (x+y))):=by
 have:=pJ w A n c (aB x) wa hn A' n' c' (aB y) wb hn';rw [ak,ak] at this;exact this
theorem nz (w:World) (A:Option Addr) (n c x:Nat) (wa:Wd w A n c (aB x)) (hn:n≤1099511627776) (g:Nat) (z:Int) (y:Nat) (hz:z=y) (hy:y < 4294967296) (hb:Blk w g 58 #[.int .u32 z]) :
 Calls Tryz.prog 225 #[.slice A n c,.slice (some ⟨g,0,none⟩) 1 1] w (ia w (aB (x * y))):=by
 subst hz;have h1:Wd w (some ⟨g,0,none⟩) 1 1 [y]:=Blk.wdN (l:=[y]) hb (by intro x hx;simp at hx;omega) rfl;have:=ni w A n c (aB x) wa hn (some ⟨g,0,none⟩) 1 1 [y] h1 (by omega);rw [ak,show val [y]=y by simp [val]] at this;exact this
theorem qG (w:World) (g:Nat) (z:Int) (y:Nat) (hz:z=y) (hy:y < 4294967296) (hb:Blk w g 58 #[.int .u32 z]) :
 Calls Tryz.prog 226 #[.slice (some ⟨g,0,none⟩) 1 1] w (ia w (aB y)):=by
 subst hz;have h1:Wd w (some ⟨g,0,none⟩) 1 1 [y]:=Blk.wdN (l:=[y]) hb (by intro x hx;simp at hx;omega) rfl;have:=dp w (some ⟨g,0,none⟩) 1 1 [y] h1 (by omega);rw [show val [y]=y by simp [val]] at this;exact this
theorem mE (w:World) (l:List UInt8) (hl:l.length≤65536) (hb:okZ l=true) :
 Calls Tryz.prog 188 #[af l] w (fC w .nilIface (dQ l) l.length):=by
 have hsz:=ai l;have htl2:=oH l;have htl:=Nat.le_trans htl2 hl;obtain ⟨m,hm⟩:∃ m,bS l=m:=⟨_,rfl⟩;obtain ⟨t,ht⟩:∃ t,bF l=t:=⟨_,rfl⟩;obtain ⟨h0,h1,h2⟩:=oI hb;have hv:dQ l=if m then -(ah t:Int) else ah t:=by unfold dQ;rw [hm,ht]
 rw [hm,ht] at h2;rw [ht] at htl htl2 h0 h1;have HM:=Qh (And.intro hm ht);have HV:=Qh hv;have b0:Below w.heap.size w (w.alloc (.cells #[.bool false,.slice none 0 0] 194)):=(aa w).alloc Qr _;have x0:Blk (w.alloc (.cells #[.bool false,.slice none 0 0] 194)) w.heap.size 194 #[.bool false,.slice none 0 0]:=am _ _ _ rfl;clear hb hm ht hv;obtain ⟨c,r,rfl⟩:=List.exists_cons_of_ne_nil h0;have htl0:=aI (c :: r);have htl1:=aI [];have hsz0:=ai (c :: r);have HX:=Qh (sG.2 h1);have HTL:=Qh (show (c :: r:List UInt8).length≤1000000 by omega);have HALL:=Qh h1
 have hcase:c≠48∨(c=48∧r=[]∧m=false):=by
  by_cases hc:c=48
  ·refine .inr ⟨hc,?_,?_⟩
   ·cases r with
    | nil=>rfl
    | cons d rs=>exact absurd ⟨by rw [hc];rfl,.inl (by simp)⟩ h2
   cases m with
   | false=>rfl
   | true=>exact absurd ⟨by rw [hc];rfl,.inr rfl⟩ h2
  exact .inl hc
 have HLL:=Qh htl
 have HSZ:=Qh (show (dQ l).natAbs < 4294967296 ^ l.length by
  rw [HV.out]
  refine Nat.lt_of_lt_of_le (show (if m=true then -(ah (c :: r):Int) else (ah (c :: r):Int)).natAbs < 4294967296 ^ (c :: r).length by
   have:=kq h1
   split <;> omega) (Nat.pow_le_pow_right (by omega) htl2))
 clear h0 h1 h2;rcases hcase with hc | ⟨rfl,rfl,rfl⟩
 ·have hcn:c.toNat≠48:=fun e=>hc (UInt8.toNat.inj e)
  have hcz:¬ (c.toNat:Int)=48:=by omega
  have hcb:((c.toNat:Int) == 48)=false:=by simp;omega
  have hget:∀ h,(⟨(c :: r).toArray⟩:ByteArray)[0]'h=c:=fun h=>rfl
  go_in
  go_wp2_with (first
   | (go_at_call 105;(with_reducible refine (aV _ l _ HM.out.1).mono ?_);rintro e w1 ⟨rfl,hb1⟩;have b1:=b0.trans (hb1.mono b0.size);have x1:=x0.below hb1 x0.lt)
   | (go_at_call 223;(with_reducible refine (jH _ l _ HM.out.2).mono ?_);rintro e w2 ⟨rfl,hb2⟩;have b2:=b1.trans (hb2.mono b1.size);have x2:=x1.below hb2 x1.lt)
   | (go_at_call 91;(with_reducible refine (qC _ _ [] ?_ HX.out).mono ?_);(exact HTL.out);rintro e w3 ⟨rfl,hb3⟩;have b3:=b2.trans (hb3.mono b2.size);have x3:=x2.below hb3 x2.lt))
  clear hget hcz hcb hcn hc htl0 htl1 hsz0;go_loopw [5,6] (fun tv mv wr=>qD (c :: r) w3 wr tv mv) (fun tv _ _=>qE tv)
  case atStart=>exact ⟨[],(c :: r),none,0,0,rfl,rfl,by omega,HLL.out,⟨jg.start _,rfl,HALL.out,by rw [show ah []=0 from rfl,ax];exact Wd.nil_ _⟩,aa _⟩
  case round =>
   obtain ⟨pre,rest,A1,n1,c1,rfl,rfl,hn1,hrl,hK,rr⟩:=hrel;have bw:=b3.trans (rr.mono b3.size);have x4:=x3.below rr x3.lt;by_cases hr0:rest=[]
   ·subst hr0
    have hpre:=hK.1.fin;subst hpre;have hsz1:=ai [];go_wp2_with (go_at_call 197;(with_reducible refine (kb _ m A1 n1 c1 (aB (ah (c :: r))) ?_ ?_).mono ?_);(exact hK.2.2.2);omega;rintro e w5 ⟨A5,n5,c5,rfl,h5,hb5⟩;have b5:=bw.trans (hb5.mono bw.size);have x5:=x4.below hb5 x4.lt;obtain ⟨d0,d1⟩:=x5.c2;obtain ⟨f0,f1⟩:=x5.f2);rw [ak] at h5;have hz:sgn m (ah (c :: r))=dQ l:=by rw [HV.out];rfl
    rw [hz] at h5;refine bodyPost_ret (v:=.tuple #[.agg #[.bool _,.slice A5 n5 c5],.nilIface]) (by simp [results,Tryz.results188,go_sem, *] <;> trivial) rfl ?_;exact ⟨_,_,_,_,rfl,IV.mk_ (h5.keep (kp2 x5.box (by decide) _ _ _ _)) (by rw [ak,hz]) HSZ.out,(b5.setCell (by dsimp only;omega) _).setCell (by dsimp only;omega) _⟩
   have hlp:0 < rest.length:=List.length_pos_iff.2 hr0;obtain ⟨L,hL⟩:∃ L,rest.length=L:=⟨_,rfl⟩;obtain ⟨k,hk⟩:∃ k,(L - 1) % 9=k:=⟨_,rfl⟩;have hk9:k < 9:=by rw [← hk];exact Nat.mod_lt _ (by omega)
   have hst:=hK.1.step (n:=k+1) hlp (by rw [hL,hk]);rw [hL] at hst hlp hrl;have hkL:=hst.1;have hsz1:(⟨rest.toArray⟩:ByteArray).size=L:=hL;have e1:((L:Int) - 1) % 9=(k:Int):=by omega
   have e2:(⟨rest.toArray⟩:ByteArray).extract 0 (k+1)=⟨(rest.take (k+1)).toArray⟩:=by rw [gN];simp
   have e3:(⟨rest.toArray⟩:ByteArray).extract (k+1) L=⟨(rest.drop (k+1)).toArray⟩:=by rw [gN,List.take_of_length_le];rw [List.length_drop,hL];exact Qr
   obtain ⟨x,hx⟩:∃ x,ah (rest.take (k+1))=x:=⟨_,rfl⟩;have htk:=lj hK.2.2.1 (k+1)
   have hx9:x < 1000000000:=by
    have h9:=cU htk;rw [hx] at h9;refine Nat.lt_of_lt_of_le h9 (Nat.le_trans (Nat.pow_le_pow_right (by omega) (show (rest.take (k+1)).length≤9 by rw [List.length_take];omega)) (by decide))
   have hpd:=ll hK.2.2.1 (k+1);have HST:=Qh hst;have HXX:=Qh hx;have HTK:=Qh htk;have HLR:=Qh hL;have hnd:(rest.drop (k+1)).length=L - (k+1):=by rw [List.length_drop,hL]
   have HND:=Qh hnd;have hT1:(rest.take (k+1)).length≤9:=by rw [List.length_take];omega
   have hT0:rest.take (k+1)≠[]:=fun e=>by have:=congrArg List.length e;rw [List.length_take,hL] at this;simp at this;omega
   have HT1:=Qh (And.intro hT1 hT0);have hpl:=cU (show (pre ++ rest.take (k+1)).all aF=true by rw [List.all_append,hK.2.1,htk];rfl);clear hk hst hx htk hL hr0 hnd hT1 hT0
   go_wp2_with (first
    | (go_at_call 90;(with_reducible refine (mD _ (rest.take (k+1)) x ?_ ?_ ?_ HXX.out).mono ?_);(exact HT1.out.1);(exact HT1.out.2);(exact HTK.out);rintro e w5 ⟨rfl,hb5⟩;have b5:Below wr.heap.size wr (w5.alloc (.cells #[.int .u32 1000000000] 58)):=hb5.alloc hb5.size _;have y5:Blk (w5.alloc (.cells #[.int .u32 1000000000] 58)) w5.heap.size 58 #[.int .u32 1000000000]:=am _ _ _ rfl)
    | (go_at_call 225;(with_reducible refine (nz _ A1 n1 c1 (ah pre) ?_ ?_ w5.heap.size 1000000000 1000000000 ?_ ?_ ?_).mono ?_);(exact hK.2.2.2.belw b5);omega;rfl;omega;(exact y5);rintro e w6 ⟨A6,n6,c6,rfl,h6,hb6⟩;have b6:=b5.trans (hb6.mono b5.size);have hn6:n6≤1000000000:=(by have h9:=h6.2.1;rw [h9];refine Nat.le_trans (ay (k:=n1+1) ?_) (by omega);have h8:=(hK.2.2.2).vlt Qr;rw [ak] at h8;rw [Nat.pow_succ];exact Nat.mul_lt_mul'' h8 (by omega)))
    | (go_at_call 226;(with_reducible refine (qG _ w6.heap.size (x:Int) x ?_ ?_ ?_).mono ?_);(first | rfl | omega);omega;(exact am _ _ _ rfl);rintro e w7 ⟨A7,n7,c7,rfl,h7,hb7⟩;have b7:Below wr.heap.size wr w7:=(b6.alloc b6.size _).trans (hb7.mono (by have:=b6.size;simp;omega));have h67:Below w6.heap.size w6 w7:=((aa w6).alloc Qr _).trans (hb7.mono (by simp));have hn7:n7≤1000000000:=(by have h9:=h7.2.1;rw [h9];exact Nat.le_trans (ay (k:=1) (by omega)) (by omega)))
    | (go_at_call 224;(with_reducible refine (qF _ A6 n6 c6 (ah pre * 1000000000) ?_ ?_ A7 n7 c7 x ?_ ?_).mono ?_);(exact h6.belw h67);omega;(exact h7);omega;rintro e w8 ⟨A8,n8,c8,rfl,h8,hb8⟩;have b8:=b7.trans (hb8.mono b7.size)))
   have hv8:ah pre * 1000000000+x=ah (pre ++ rest.take (k+1)):=by rw [HST.out.2.2.2.2,HXX.out]
   go_roundw
   case rel =>
    refine ⟨pre ++ rest.take (k+1),rest.drop (k+1),A8,n8,c8,rfl,rfl,?_,by rw [HND.out];omega,⟨HST.out.2.2.2.1,by rw [List.all_append,hK.2.1,HTK.out];rfl,hpd,by rw [← hv8];exact h8⟩,rr.trans (b8.mono rr.size)⟩;rw [h8.2.1,hv8];refine Nat.le_trans (ay (Nat.lt_of_lt_of_le hpl (ko _))) ?_;have h9:=congrArg List.length HST.out.2.2.2.1.1;rw [List.length_append] at h9;omega
   case measure =>
    show (rest.drop (k+1)).length < rest.length;rw [HND.out,HLR.out];omega
 go_in
 go_wp2_with (first
  | (go_at_call 105;(with_reducible refine (aV _ l _ HM.out.1).mono ?_);rintro e w1 ⟨rfl,hb1⟩;have b1:=b0.trans (hb1.mono b0.size);have x1:=x0.below hb1 x0.lt)
  | (go_at_call 223;(with_reducible refine (jH _ l _ HM.out.2).mono ?_);rintro e w2 ⟨rfl,hb2⟩;have b2:=b1.trans (hb2.mono b1.size);have x2:=x1.below hb2 x1.lt)
  | (go_at_call 91;(with_reducible refine (qC _ _ [] ?_ HX.out).mono ?_);(exact HTL.out);rintro e w3 ⟨rfl,hb3⟩;have b3:=b2.trans (hb3.mono b2.size);have x3:=x2.below hb3 x2.lt))
 clear htl0 htl1;go_loopw [5,6] (fun tv mv wr=>qD [48] w3 wr tv mv) (fun tv _ _=>qE tv)
 case atStart=>exact ⟨[],[48],none,0,0,rfl,rfl,by omega,HLL.out,⟨jg.start _,rfl,HALL.out,by rw [show ah []=0 from rfl,ax];exact Wd.nil_ _⟩,aa _⟩
 case round =>
  obtain ⟨pre,rest,A1,n1,c1,rfl,rfl,hn1,hrl,hK,rr⟩:=hrel;have bw:=b3.trans (rr.mono b3.size);have x4:=x3.below rr x3.lt;by_cases hr0:rest=[]
  ·subst hr0
   have hpre:=hK.1.fin;subst hpre;have hsz1:=ai [];go_wp2_with (go_at_call 197;(with_reducible refine (kb _ false A1 n1 c1 (aB (ah [48])) ?_ ?_).mono ?_);(exact hK.2.2.2);omega;rintro e w5 ⟨A5,n5,c5,rfl,h5,hb5⟩;have b5:=bw.trans (hb5.mono bw.size);have x5:=x4.below hb5 x4.lt;obtain ⟨d0,d1⟩:=x5.c2;obtain ⟨f0,f1⟩:=x5.f2);rw [ak] at h5;have hz:sgn false (ah [48])=dQ l:=by rw [HV.out];rfl
   rw [hz] at h5;refine bodyPost_ret (v:=.tuple #[.agg #[.bool _,.slice A5 n5 c5],.nilIface]) (by simp [results,Tryz.results188,go_sem, *] <;> trivial) rfl ?_;exact ⟨_,_,_,_,rfl,IV.mk_ (h5.keep (kp2 x5.box (by decide) _ _ _ _)) (by rw [ak,hz]) HSZ.out,(b5.setCell (by dsimp only;omega) _).setCell (by dsimp only;omega) _⟩
  have hlp:0 < rest.length:=List.length_pos_iff.2 hr0;obtain ⟨L,hL⟩:∃ L,rest.length=L:=⟨_,rfl⟩;obtain ⟨k,hk⟩:∃ k,(L - 1) % 9=k:=⟨_,rfl⟩;have hk9:k < 9:=by rw [← hk];exact Nat.mod_lt _ (by omega)
  have hst:=hK.1.step (n:=k+1) hlp (by rw [hL,hk]);rw [hL] at hst hlp hrl;have hkL:=hst.1;have hsz1:(⟨rest.toArray⟩:ByteArray).size=L:=hL;have e1:((L:Int) - 1) % 9=(k:Int):=by omega
  have e2:(⟨rest.toArray⟩:ByteArray).extract 0 (k+1)=⟨(rest.take (k+1)).toArray⟩:=by rw [gN];simp
  have e3:(⟨rest.toArray⟩:ByteArray).extract (k+1) L=⟨(rest.drop (k+1)).toArray⟩:=by rw [gN,List.take_of_length_le];rw [List.length_drop,hL];exact Qr
  obtain ⟨x,hx⟩:∃ x,ah (rest.take (k+1))=x:=⟨_,rfl⟩;have htk:=lj hK.2.2.1 (k+1)
  have hx9:x < 1000000000:=by
   have h9:=cU htk;rw [hx] at h9;refine Nat.lt_of_lt_of_le h9 (Nat.le_trans (Nat.pow_le_pow_right (by omega) (show (rest.take (k+1)).length≤9 by rw [List.length_take];omega)) (by decide))
  have hpd:=ll hK.2.2.1 (k+1);have HST:=Qh hst;have HXX:=Qh hx;have HTK:=Qh htk;have HLR:=Qh hL;have hnd:(rest.drop (k+1)).length=L - (k+1):=by rw [List.length_drop,hL]
  have HND:=Qh hnd;have hT1:(rest.take (k+1)).length≤9:=by rw [List.length_take];omega
  have hT0:rest.take (k+1)≠[]:=fun e=>by have:=congrArg List.length e;rw [List.length_take,hL] at this;simp at this;omega
  have HT1:=Qh (And.intro hT1 hT0);have hpl:=cU (show (pre ++ rest.take (k+1)).all aF=true by rw [List.all_append,hK.2.1,htk];rfl);clear hk hst hx htk hL hr0 hnd hT1 hT0
  go_wp2_with (first
   | (go_at_call 90;(with_reducible refine (mD _ (rest.take (k+1)) x ?_ ?_ ?_ HXX.out).mono ?_);(exact HT1.out.1);(exact HT1.out.2);(exact HTK.out);rintro e w5 ⟨rfl,hb5⟩;have b5:Below wr.heap.size wr (w5.alloc (.cells #[.int .u32 1000000000] 58)):=hb5.alloc hb5.size _;have y5:Blk (w5.alloc (.cells #[.int .u32 1000000000] 58)) w5.heap.size 58 #[.int .u32 1000000000]:=am _ _ _ rfl)
   | (go_at_call 225;(with_reducible refine (nz _ A1 n1 c1 (ah pre) ?_ ?_ w5.heap.size 1000000000 1000000000 ?_ ?_ ?_).mono ?_);(exact hK.2.2.2.belw b5);omega;rfl;omega;(exact y5);rintro e w6 ⟨A6,n6,c6,rfl,h6,hb6⟩;have b6:=b5.trans (hb6.mono b5.size);have hn6:n6≤1000000000:=(by have h9:=h6.2.1;rw [h9];refine Nat.le_trans (ay (k:=n1+1) ?_) (by omega);have h8:=(hK.2.2.2).vlt Qr;rw [ak] at h8;rw [Nat.pow_succ];exact Nat.mul_lt_mul'' h8 (by omega)))
   | (go_at_call 226;(with_reducible refine (qG _ w6.heap.size (x:Int) x ?_ ?_ ?_).mono ?_);(first | rfl | omega);omega;(exact am _ _ _ rfl);rintro e w7 ⟨A7,n7,c7,rfl,h7,hb7⟩;have b7:Below wr.heap.size wr w7:=(b6.alloc b6.size _).trans (hb7.mono (by have:=b6.size;simp;omega));have h67:Below w6.heap.size w6 w7:=((aa w6).alloc Qr _).trans (hb7.mono (by simp));have hn7:n7≤1000000000:=(by have h9:=h7.2.1;rw [h9];exact Nat.le_trans (ay (k:=1) (by omega)) (by omega)))
   | (go_at_call 224;(with_reducible refine (qF _ A6 n6 c6 (ah pre * 1000000000) ?_ ?_ A7 n7 c7 x ?_ ?_).mono ?_);(exact h6.belw h67);omega;(exact h7);omega;rintro e w8 ⟨A8,n8,c8,rfl,h8,hb8⟩;have b8:=b7.trans (hb8.mono b7.size)))
  have hv8:ah pre * 1000000000+x=ah (pre ++ rest.take (k+1)):=by rw [HST.out.2.2.2.2,HXX.out]
  go_roundw
  case rel =>
   refine ⟨pre ++ rest.take (k+1),rest.drop (k+1),A8,n8,c8,rfl,rfl,?_,by rw [HND.out];omega,⟨HST.out.2.2.2.1,by rw [List.all_append,hK.2.1,HTK.out];rfl,hpd,by rw [← hv8];exact h8⟩,rr.trans (b8.mono rr.size)⟩;rw [h8.2.1,hv8];refine Nat.le_trans (ay (Nat.lt_of_lt_of_le hpl (ko _))) ?_;have h9:=congrArg List.length HST.out.2.2.2.1.1;rw [List.length_append] at h9;omega
  case measure =>
   show (rest.drop (k+1)).length < rest.length;rw [HND.out,HLR.out];omega
end Go.Proofs.YtfilnhompchciaaGreatDoor
namespace Bn
def bT (c:UInt8):Bool:=(decide (97≤c.toNat) && decide (c.toNat≤122)) || (decide (65≤c.toNat) && decide (c.toNat≤90))
def aY (c:UInt8):Bool:=bT c || aF c || c == 95
def df (c:UInt8):Bool:=c == 123 || c == 125 || c == 59 || c == 46
def cY (c:UInt8):Bool:=c == 32 || c == 9 || c == 13
def bq:List UInt8→Nat
  | []=>0
  | c :: t=>if bT c then 1+(t.takeWhile aY).length else 0
def bR (r:List UInt8):Nat:=(r.takeWhile aF).length
def bX:List UInt8→Nat
  | 45 :: _=>1
  | _=>0
def d8:List UInt8→Nat
  | c :: t=>if (c == 46 || c == 47) && decide (0 < bR t) then 1+bR t else 0
  | []=>0
def bp (r:List UInt8):Nat:=if bR (r.drop (bX r))=0 then 0 else bX r+bR (r.drop (bX r))+d8 (r.drop (bX r+bR (r.drop (bX r))))
def mF:List UInt8→Bool
  | c :: _=>bT c || c == 95 || c == 46 || c == 47
  | []=>false
inductive nA where
  | ok (kind n:Nat)
  | err (x:Nat)
def bc (r:List UInt8):nA:=match r with
  | []=>.err 2
  | c :: _=>if df c then .ok 2 1 else if 0 < bq r then (if 24 < bq r then .err 5 else .ok 0 (bq r))
    else if bp r=0 then .err 2 else if 60 < bp r then .err 4 else if mF (r.drop (bp r)) then .err 2 else .ok 1 (bp r)
structure Tkn where
  kind:Nat
  text:List UInt8
  line:Nat
  col:Nat
deriving DecidableEq
inductive gy where
  | ok (l:List Tkn)
  | err (x:Nat)
def gy.push (t:Tkn):gy→gy
  | .ok l=>.ok (t :: l)
  | .err x=>.err x
def cS (r:List UInt8):Nat:=(r.takeWhile (fun c=>c != 10)).length
def toks:Nat→List UInt8→Nat→Nat→gy
  | 0,_,_,_=>.ok []
  | _+1,[],_,_=>.ok []
  | f+1,c :: t,line,col =>
    if c=10 then toks f t (line+1) 1
    else if cY c then toks f t line (col+1)
    else if c=37 then toks f ((c :: t).drop (cS (c :: t))) line (col+cS (c :: t))
    else match bc (c :: t) with
      | .err x=>.err x
      | .ok k n=>(toks f ((c :: t).drop n) line (col+n)).push ⟨k,(c :: t).take n,line,col⟩
theorem qH (p:UInt8→Bool) (l:List UInt8):(l.takeWhile p).length≤l.length:=(List.takeWhile_sublist p).length_le
theorem ks (r:List UInt8):bR r≤r.length:=qH _ _
theorem ir:∀ (r:List UInt8),bq r≤r.length
 | []=>Qr
 | c :: t=>by
  rw [bq];have:=qH aY t;simp only [List.length_cons];split <;> omega
theorem qI:∀ (r:List UInt8),d8 r≤r.length
 | []=>Qr
 | c :: t=>by
  rw [d8];have:=ks t;simp only [List.length_cons];split <;> omega
theorem sH:∀ (r:List UInt8),bX r≤r.length
 | []=>Qr
 | c :: t=>by unfold bX;split <;> simp
theorem kt (r:List UInt8):bp r≤r.length:=by
 unfold bp;split
 ·omega
 have h1:=ks (r.drop (bX r));have h2:=qI (r.drop (bX r+bR (r.drop (bX r))));have h3:=sH r;rw [List.length_drop] at h1 h2;omega
theorem ku (r:List UInt8):cS r≤r.length:=qH _ _
theorem fE {t:List UInt8}:0 < cS (37 :: t):=by unfold cS;simp
theorem dD {r:List UInt8}{k n:Nat}(h:bc r=.ok k n):0 < n∧n≤r.length:=by
 unfold bc at h;split at h
 ·cases h
 rename_i c t;split at h
 ·injection h with _ h;subst h;simp
 split at h
 ·split at h
  ·cases h
  injection h with _ h;subst h;exact ⟨by assumption,ir _⟩
 split at h
 ·cases h
 split at h
 ·cases h
 split at h
 ·cases h
 injection h with _ h;subst h;exact ⟨by omega,kt _⟩
theorem jI:∀ (f g:Nat) (r:List UInt8) (line col:Nat),r.length < f→r.length < g→toks f r line col=toks g r line col:=by
 intro f
 induction f with
 | zero=>intro g r _ _ h;omega
 | succ f ih =>
  intro g r line col hf hg
  cases g with
  | zero=>omega
  | succ g =>
   cases r with
   | nil=>rfl
   | cons c t =>
    simp only [List.length_cons] at hf hg;unfold toks;split
    ·exact ih g t _ _ (by omega) (by omega)
    split
    ·exact ih g t _ _ (by omega) (by omega)
    split
    ·rename_i h37
     subst h37;have h1:=fE (t:=t);have h2:=ku (37 :: t);simp only [List.length_cons] at h2;exact ih g _ _ _ (by rw [List.length_drop];simp only [List.length_cons];omega) (by rw [List.length_drop];simp only [List.length_cons];omega)
    split
    ·rfl
    rename_i k n h;have h1:=dD h;simp only [List.length_cons] at h1;rw [ih g _ _ _ (by rw [List.length_drop];simp only [List.length_cons];omega) (by rw [List.length_drop];simp only [List.length_cons];omega)]
def dR (s:List UInt8):gy:=toks (s.length+1) s 1 1
end Bn

/- Tokens of joined texts: plain. -/
namespace Bn
def sI (c:UInt8):Bool:=c == 32 || c == 9 || c == 10 || c == 13 || c == 37
def oJ (e:List UInt8):Prop:=e=[]∨∃ c t,e=c :: t∧sI c=true
theorem iu {c:UInt8}(h:sI c=true):aY c=false∧aF c=false∧(c == 46)=false∧(c == 47)=false∧bT c=false∧(c == 95)=false:=by
 unfold sI at h;simp only [Bool.or_eq_true,beq_iff_eq] at h;rcases h with (((h | h) | h) | h) | h <;> subst h <;> decide
theorem fj {p:UInt8→Bool}:∀ (l:List UInt8),(l.takeWhile p).all p=true:=by
 intro l
 induction l with
 | nil=>rfl
 | cons x r ih =>
  rw [List.takeWhile_cons];split
  ·rename_i h;rw [List.all_cons,h,ih];rfl
  rfl
theorem qJ {p:UInt8→Bool}:∀ {a:List UInt8}(e:List UInt8),a.all p=true→(∀ c t,e=c :: t→p c=false)→(a ++ e).takeWhile p=a:=by
 intro a
 induction a with
 | nil =>
  intro e _ he
  cases e with
  | nil=>rfl
  | cons c t=>rw [List.nil_append,List.takeWhile_cons,he c t rfl];rfl
 | cons x r ih =>
  intro e h he;rw [List.all_cons,Bool.and_eq_true] at h;rw [List.cons_append,List.takeWhile_cons,h.1,if_pos rfl,ih e h.2 he]
theorem eu (p:UInt8→Bool) (l:List UInt8):∃ d,l=l.takeWhile p ++ d∧(∀ c t,d=c :: t→p c=false):=by
 refine ⟨l.dropWhile p,(List.takeWhile_append_dropWhile).symm,fun c t h=>?_⟩
 induction l with
 | nil=>simp at h
 | cons x r ih =>
  rw [List.dropWhile_cons] at h;split at h
  ·exact ih h
  injection h with h1 _;subst h1;simp_all
theorem oJ.np {e:List UInt8}(h:oJ e) (c:UInt8) (t:List UInt8) (he:e=c :: t):sI c=true:=by
 rcases h with h | ⟨c',t',h,hs⟩
 ·rw [h] at he;cases he
 rw [h] at he;injection he with h1 _;rw [← h1];exact hs
theorem kw {l:List UInt8}(h:l.all aF=true):10 ∉ l:=fun h1=>by
 rw [List.all_eq_true] at h;exact absurd (h 10 h1) (by decide)
theorem oL (r:List UInt8):∃ M d,r=M ++ d∧d8 r=M.length∧10 ∉ M∧∀ e,oJ e→d8 (M ++ e)=M.length∧(∀ c t,M ++ e=c :: t→aF c=false):=by
 have hs:∀ e,oJ e→d8 ([] ++ e)=0∧(∀ c t,([]:List UInt8) ++ e=c :: t→aF c=false):=by
  intro e he;rw [List.nil_append];refine ⟨?_,fun c t h=>(iu (he.np c t h)).2.1⟩
  cases e with
  | nil=>rfl
  | cons c t =>
   have:=iu (he.np c t rfl);rw [d8,this.2.2.1,this.2.2.2.1];rfl
 cases r with
 | nil=>exact ⟨[],[],rfl,rfl,by simp,hs⟩
 | cons c t =>
  by_cases h:((c == 46 || c == 47) && decide (0 < bR t))=true
  ·obtain ⟨d,h1,h2⟩:=eu aF t
   have h3:(c == 46 || c == 47)=true:=by rw [Bool.and_eq_true] at h;exact h.1
   have h4:0 < bR t:=by rw [Bool.and_eq_true,decide_eq_true_eq] at h;exact h.2
   refine ⟨c :: t.takeWhile aF,d,by rw [List.cons_append,← h1],?_,?_,?_⟩
   ·rw [d8,h,if_pos rfl,List.length_cons];unfold bR;omega
   ·intro h6
    rcases List.mem_cons.1 h6 with e | e
    ·subst e;exact absurd h3 (by decide)
    exact kw (fj t) e
   intro e he
   have h5:bR (t.takeWhile aF ++ e)=(t.takeWhile aF).length:=by
    unfold bR;rw [qJ e (fj t) (fun c t h=>(iu (he.np c t h)).2.1)]
   refine ⟨?_,fun c' t' h'=>?_⟩
   ·rw [List.cons_append,d8,h5,h3]
    have:0 < (t.takeWhile aF).length:=h4;rw [if_pos (by simp;exact this),List.length_cons];omega
   injection h' with h6 _;subst h6;rw [Bool.or_eq_true,beq_iff_eq,beq_iff_eq] at h3;rcases h3 with e | e <;> subst e <;> decide
  have h':((c == 46 || c == 47) && decide (0 < bR t))=false:=by simpa using h
  exact ⟨[],c :: t,rfl,by rw [d8,h'];rfl,by simp,hs⟩
theorem mG {c:UInt8}{t:List UInt8}(h:aF c=true):bX (c :: t)=0:=by
 unfold bX;split
 ·rename_i h1;injection h1 with h1 _;subst h1;exact absurd h (by decide)
 rfl
theorem qK {r:List UInt8}(h:0 < bp r):∃ P d c t,r=P ++ d∧P.length=bp r∧P=c :: t∧(aF c=true∨c=45)∧10 ∉ P∧∀ e,oJ e→bp (P ++ e)=P.length:=by
 have hk:0 < bR (r.drop (bX r)):=by
  rcases Nat.eq_zero_or_pos (bR (r.drop (bX r))) with e | e
  ·unfold bp at h;rw [if_pos e] at h;omega
  exact e
 obtain ⟨d0,e0,g0⟩:=eu aF (r.drop (bX r));obtain ⟨D,hD⟩:∃ D,(r.drop (bX r)).takeWhile aF=D:=⟨_,rfl⟩;have hDa:D.all aF=true:=by rw [← hD];exact fj _
 have hDl:bR (r.drop (bX r))=D.length:=by unfold bR;rw [hD]
 rw [hD] at e0;rw [hDl] at hk
 obtain ⟨x,D',hx⟩:∃ x D',D=x :: D':=by
  cases D with
  | nil=>simp at hk
  | cons x D'=>exact ⟨x,D',rfl⟩
 have hxd:aF x=true:=by rw [hx,List.all_cons,Bool.and_eq_true] at hDa;exact hDa.1
 have hdd:(r.drop (bX r)).drop D.length=d0:=by rw [e0];simp
 obtain ⟨M,d,e1,e2,e10,e3⟩:=oL d0
 have hn:bp r=bX r+D.length+M.length:=by
  unfold bp;rw [hDl,if_neg (by omega),← List.drop_drop,hdd,e2]
 have hmin:(bX r=0∧r=D ++ d0)∨(bX r=1∧r=45 :: (D ++ d0)):=by
  cases r with
  | nil=>simp [bX] at e0;left;exact ⟨rfl,by simpa using e0⟩
  | cons c t =>
   by_cases hc:c=45
   ·subst hc;right;refine ⟨rfl,?_⟩
    have:bX (45 :: t)=1:=rfl;rw [this] at e0;simp at e0;rw [← e0]
   left
   have:bX (c :: t)=0:=by
    unfold bX;split
    ·rename_i h1;injection h1 with h1 _;exact absurd h1 hc
    rfl
   refine ⟨this,?_⟩;rw [this] at e0;simpa using e0
 have key:∀ e,oJ e→bR (D ++ (M ++ e))=D.length∧d8 (M ++ e)=M.length:=by
  intro e he;obtain ⟨h1,h2⟩:=e3 e he;refine ⟨?_,h1⟩;unfold bR;rw [qJ (M ++ e) hDa h2]
 rcases hmin with ⟨m0,hr⟩ | ⟨m1,hr⟩
 ·refine ⟨D ++ M,d,x,D' ++ M,by rw [hr,e1,List.append_assoc],by rw [hn,m0,List.length_append];omega,by rw [hx];rfl,.inl hxd,fun h=>by rcases List.mem_append.1 h with h | h;exact kw hDa h;exact e10 h,fun e he=>?_⟩
  obtain ⟨h1,h2⟩:=key e he;have hm:bX (D ++ M ++ e)=0:=by rw [hx];exact mG hxd
  unfold bp;rw [hm,List.drop_zero,List.append_assoc,h1,if_neg (by omega),Nat.zero_add,List.drop_left,h2,List.length_append]
 refine ⟨45 :: (D ++ M),d,45,D ++ M,by rw [hr,e1,List.cons_append,List.append_assoc],by rw [hn,m1,List.length_cons,List.length_append];omega,rfl,.inr rfl,fun h=>by rcases List.mem_cons.1 h with h | h;exact absurd h (by decide);rcases List.mem_append.1 h with h | h;exact kw hDa h;exact e10 h,fun e he=>?_⟩;obtain ⟨h1,h2⟩:=key e he;have hm:bX (45 :: (D ++ M) ++ e)=1:=rfl;unfold bp;rw [hm];rw [show (45 :: (D ++ M) ++ e).drop 1=D ++ (M ++ e) by simp];rw [h1,if_neg (by omega),← List.drop_drop];rw [show (45 :: (D ++ M) ++ e).drop 1=D ++ (M ++ e) by simp];rw [List.drop_left,h2,List.length_cons,List.length_append];omega
theorem mH {r:List UInt8}{k n:Nat}(h:bc r=.ok k n):10 ∉ r.take n:=by
 unfold bc at h;split at h
 ·cases h
 rename_i c t;split at h
 ·rename_i hs
  injection h with h1 h2;subst h2;intro h3;have h4:(10:UInt8)=c:=by simpa using h3
  subst h4;exact absurd hs (by decide)
 split at h
 ·rename_i hw
  split at h
  ·cases h
  injection h with h1 h2
  have hl:bT c=true:=by
   rw [bq] at hw;split at hw
   ·assumption
   omega
  have hwn:bq (c :: t)=1+(t.takeWhile aY).length:=by rw [bq,hl,if_pos rfl]
  obtain ⟨d,e1,_⟩:=eu aY t
  have ht:(c :: t).take n=c :: t.takeWhile aY:=by
   rw [← h2,hwn,Nat.add_comm,List.take_succ_cons];congr 1;exact (congrArg (List.take _) e1).trans List.take_left
  rw [ht];intro h3;rcases List.mem_cons.1 h3 with e | e
  ·subst e;exact absurd hl (by decide)
  have:=fj (p:=aY) t;rw [List.all_eq_true] at this;exact absurd (this 10 e) (by decide)
 split at h
 ·cases h
 rename_i hn0;split at h
 ·cases h
 split at h
 ·cases h
 injection h with h1 h2;obtain ⟨P,d,x,P',e1,e2,e3,e4,e10,e5⟩:=qK (Nat.pos_of_ne_zero hn0);have hP:(c :: t).take n=P:=by rw [← h2,← e2,e1];exact List.take_left
 rw [hP];exact e10
end Bn

/- Tokens of joined texts, blanks and comments between them: plain. -/
namespace Bn
def tk (r:List UInt8) (line col:Nat):gy:=toks (r.length+1) r line col
theorem qL (line col:Nat):tk [] line col=.ok []:=rfl
theorem kx (t:List UInt8) (line col:Nat):tk (10 :: t) line col=tk t (line+1) 1:=by
 unfold tk;rw [List.length_cons]
 conv=>lhs;unfold toks
 rw [if_pos rfl]
theorem oM {c:UInt8}(h:cY c=true):c≠10:=by
 rintro rfl;exact absurd h (by decide)
theorem iw {c:UInt8}(h:cY c=true) (t:List UInt8) (line col:Nat):tk (c :: t) line col=tk t line (col+1):=by
 unfold tk;rw [List.length_cons]
 conv=>lhs;unfold toks
 rw [if_neg (oM h),if_pos h]
theorem qM (t:List UInt8) (line col:Nat):tk (37 :: t) line col=tk ((37 :: t).drop (cS (37 :: t))) line (col+cS (37 :: t)):=by
 have h1:=fE (t:=t);have h2:=ku (37 :: t);unfold tk
 conv=>lhs;rw [List.length_cons];unfold toks
 rw [if_neg (by decide),if_neg (by decide),if_pos rfl];simp only [List.length_cons] at h2;refine jI _ _ _ _ _ ?_ ?_ <;> rw [List.length_drop,List.length_cons] <;> omega
theorem lp {c:UInt8}{t:List UInt8}{k n:Nat}(h:bc (c :: t)=.ok k n):c≠10∧cY c=false∧c≠37:=by
 have key:∀ c:UInt8,df c=false→bT c=false→aF c=false→c≠45→∀ t k n,bc (c :: t)≠.ok k n:=by
  intro c h1 h2 h3 h4 t k n h;have hw:bq (c :: t)=0:=by rw [bq,h2];rfl
  have hm:bX (c :: t)=0:=by
   unfold bX;split
   ·rename_i h5;injection h5 with h5 _;exact absurd h5 h4
   rfl
  have hn:bp (c :: t)=0:=by
   unfold bp;rw [hm,List.drop_zero,if_pos (by unfold bR;rw [List.takeWhile_cons,h3];rfl)]
  unfold bc at h;simp [h1,hw,hn] at h
 refine ⟨?_,?_,?_⟩
 ·rintro rfl;exact key 10 (by decide) (by decide) (by decide) (by decide) t k n h
 ·cases hb:cY c
  ·rfl
  exfalso;unfold cY at hb;simp only [Bool.or_eq_true,beq_iff_eq] at hb;rcases hb with (e | e) | e <;> subst e
  ·exact key 32 (by decide) (by decide) (by decide) (by decide) t k n h
  ·exact key 9 (by decide) (by decide) (by decide) (by decide) t k n h
  exact key 13 (by decide) (by decide) (by decide) (by decide) t k n h
 rintro rfl;exact key 37 (by decide) (by decide) (by decide) (by decide) t k n h
theorem qN {c:UInt8}{t:List UInt8}{k n:Nat}(h:bc (c :: t)=.ok k n) (line col:Nat) :
 tk (c :: t) line col=(tk ((c :: t).drop n) line (col+n)).push ⟨k,(c :: t).take n,line,col⟩:=by
 obtain ⟨h1,h2,h3⟩:=lp h;have h4:=dD h;unfold tk
 conv=>lhs;rw [List.length_cons];unfold toks
 rw [if_neg h1,if_neg (by rw [h2];simp),if_neg h3,h];simp only [List.length_cons] at h4;dsimp only;rw [jI (t.length+1) (((c :: t).drop n).length+1) _ _ _ (by rw [List.length_drop,List.length_cons];omega) (by omega)]
theorem qO {c:UInt8}{t:List UInt8}{x:Nat}(h:bc (c :: t)=.err x) (h1:c≠10) (h2:cY c=false) (h3:c≠37) (line col:Nat):tk (c :: t) line col=.err x:=by
 unfold tk;rw [List.length_cons];unfold toks;rw [if_neg h1,if_neg (by rw [h2];simp),if_neg h3,h]
def lq (s:List UInt8):Prop:=∀ rest line col,∃ line' col',tk (s ++ rest) line col=tk rest line' col'
theorem lq.nil:lq []:=fun _ line col=>⟨line,col,rfl⟩
theorem lq.line {s:List UInt8}(h:lq s):lq (10 :: s):=fun rest line col=>by
 obtain ⟨a,b,e⟩:=h rest (line+1) 1;exact ⟨a,b,by rw [List.cons_append,kx,e]⟩
theorem lq.blank {c:UInt8}{s:List UInt8}(hc:cY c=true) (h:lq s):lq (c :: s):=fun rest line col=>by
 obtain ⟨a,b,e⟩:=h rest line (col+1);exact ⟨a,b,by rw [List.cons_append,iw hc,e]⟩
def shape:gy→Option (List (Nat × List UInt8))
  | .ok l=>some (l.map fun t=>(t.kind,t.text))
  | .err _=>none
end Bn

/- Every token stands at its place: plain. -/
namespace Bn
def lr (line col:Nat) (t:Tkn):Prop:=line < t.line∨(line=t.line∧col≤t.col)
theorem lr.mono {line col col':Nat}{t:Tkn}(h:lr line col' t) (hc:col≤col'):lr line col t:=by
 rcases h with h | ⟨h,h1⟩
 ·exact .inl h
 exact .inr ⟨h,Nat.le_trans hc h1⟩
theorem fk:∀ (f:Nat) (r:List UInt8) (line col:Nat) (l:List Tkn),toks f r line col=.ok l→∀ t∈l,lr line col t:=by
 intro f
 induction f with
 | zero=>intro r line col l h t ht;unfold toks at h;injection h with h;subst h;cases ht
 | succ f ih =>
  intro r line col l h t ht
  cases r with
  | nil=>unfold toks at h;injection h with h;subst h;cases ht
  | cons c s =>
   unfold toks at h;split at h
   ·rcases ih _ _ _ _ h t ht with e | ⟨e,_⟩
    ·exact .inl (by omega)
    exact .inl (by omega)
   split at h
   ·exact (ih _ _ _ _ h t ht).mono (by omega)
   split at h
   ·exact (ih _ _ _ _ h t ht).mono (by omega)
   split at h
   ·cases h
   rename_i k n hf
   cases hx:toks f ((c :: s).drop n) line (col+n) with
   | err x=>rw [hx] at h;cases h
   | ok l' =>
    rw [hx] at h;injection h with h;subst h;rcases List.mem_cons.1 ht with e | e
    ·subst e;exact .inr ⟨rfl,Qr⟩
    exact (ih _ _ _ _ hx t e).mono (by omega)
def PlI (s:List UInt8) (l:List Tkn) (i line col k left:Nat):Prop:=k≤l.length∧∃ u rest,s.drop i=u ++ rest∧10 ∉ u∧tk rest line (col+u.length)=.ok (l.drop k)∧(left=u.length∨left=0)
theorem PlI.start {s:List UInt8}{l:List Tkn}(h:dR s=.ok l):PlI s l 0 1 1 0 0:=⟨Nat.zero_le _,[],s,rfl,by simp,h,.inr rfl⟩
theorem PlI.fin {s:List UInt8}{l:List Tkn}{line col k left:Nat}(h:PlI s l s.length line col k left):k=l.length:=by
 obtain ⟨hk,u,rest,h1,_,h2,_⟩:=h;rw [List.drop_length] at h1;have h3:=List.append_eq_nil_iff.1 h1.symm;rw [h3.2,qL] at h2;injection h2 with h2;have:=congrArg List.length h2;rw [List.length_drop] at this;simp at this;omega
def jJ (l:List Tkn) (line col k left:Nat):Bool:=decide (left=0) && (match l[k]? with | some t=>decide (t.line=line) && decide (t.col=col) | none=>false)
def dE (c:UInt8) (line:Nat):Nat:=if c=10 then line+1 else line
def eM (c:UInt8) (col:Nat):Nat:=if c=10 then 1 else col+1
theorem ix {l:List Tkn}{line col k left:Nat}{line' col':Nat}(h:∀ t∈l.drop k,lr line' col' t) (hp:line < line'∨(line=line'∧col < col')):jJ l line col k left=false:=by
 unfold jJ
 cases hk:l[k]? with
 | none=>simp
 | some t =>
  have hm:t∈l.drop k:=by
   obtain ⟨h1,h2⟩:=List.getElem?_eq_some_iff.1 hk;rw [List.drop_eq_getElem_cons h1,h2];simp
  have:=h t hm
  have h3:¬ (t.line=line∧t.col=col):=by
   rintro ⟨a,b⟩;rcases this with e | ⟨e,e2⟩ <;> rcases hp with g | ⟨g,g2⟩ <;> omega
  simp only [Bool.and_eq_false_iff,decide_eq_false_iff_not];right;by_cases ha:t.line=line
  ·right;exact fun hb=>h3 ⟨ha,hb⟩
  left;exact ha
theorem PlI.inner {s:List UInt8}{l:List Tkn}{i line col k left:Nat}{c:UInt8}{t u rest:List UInt8}(hk:k≤l.length) (hd:s.drop i=c :: t) (h1:s.drop i=u ++ rest) (hu:10 ∉ u) (h2:tk rest line (col+u.length)=.ok (l.drop k)) (h3:left=u.length∨left=0) (hne:u≠[]) :
 jJ l line col k left=false∧PlI s l (i+1) (dE c line) (eM c col) k (left - 1):=by
 obtain ⟨x,u',rfl⟩:=List.exists_cons_of_ne_nil hne;have hx:x=c∧t=u' ++ rest:=by rw [hd] at h1;injection h1 with a b;exact ⟨a.symm,b⟩
 obtain ⟨rfl,ht⟩:=hx;have hx10:x≠10:=fun e=>hu (by rw [e];simp)
 rw [List.length_cons] at h2 h3;have hd1:s.drop (i+1)=t:=by rw [← List.drop_drop,hd];rfl
 refine ⟨ix (fk _ _ _ _ _ h2) (.inr ⟨rfl,by omega⟩),hk,u',rest,by rw [hd1,ht],fun h=>hu (by simp [h]),?_,by omega⟩;unfold dE eM;rw [if_neg hx10,if_neg hx10,show col+1+u'.length=col+(u'.length+1) by omega];exact h2
theorem PlI.step {s:List UInt8}{l:List Tkn}{i line col k left:Nat}(h:PlI s l i line col k left) {c:UInt8}{t:List UInt8}(hd:s.drop i=c :: t) :
 (jJ l line col k left=false∧PlI s l (i+1) (dE c line) (eM c col) k (left - 1)) ∨
 (jJ l line col k left=true∧∃ x,l[k]?=some x∧0 < x.text.length∧i+x.text.length≤s.length∧(s.drop i).take x.text.length=x.text∧PlI s l (i+1) (dE c line) (eM c col) (k+1) (x.text.length - 1)):=by
 obtain ⟨hk,u,rest,h1,hu,h2,h3⟩:=h;by_cases hne:u=[]
 ·subst hne
  rw [List.nil_append] at h1;rw [List.length_nil,Nat.add_zero] at h2;have hl0:left=0:=by rcases h3 with e | e <;> simpa using e
  subst hl0;have hd1:s.drop (i+1)=t:=by rw [← List.drop_drop,hd];rfl
  have hr:rest=c :: t:=by rw [← h1,hd]
  subst hr;by_cases h10:c=10
  ·subst h10
   rw [kx] at h2;left;refine ⟨ix (fk _ _ _ _ _ h2) (.inl (by omega)),hk,[],t,by rw [hd1];rfl,by simp,?_,.inr rfl⟩;exact h2
  by_cases hb:cY c=true
  ·rw [iw hb] at h2
   left;refine ⟨ix (fk _ _ _ _ _ h2) (.inr ⟨rfl,by omega⟩),hk,[],t,by rw [hd1];rfl,by simp,?_,.inr rfl⟩;unfold dE eM;rw [if_neg h10,if_neg h10];exact h2
  by_cases h37:c=37
  ·subst h37
   rw [qM] at h2;left;have hp:=fE (t:=t);have hle:=ku (37 :: t);have hlen:((37 :: t).take (cS (37 :: t))).length=cS (37 :: t):=by rw [List.length_take];omega
   refine PlI.inner hk hd (h1.trans (List.take_append_drop _ _).symm) ?_ (by rw [hlen];exact h2) (.inr rfl) (fun e=>by rw [e] at hlen;simp at hlen;omega);intro hm
   have:(37 :: t).take (cS (37 :: t))=(37 :: t).takeWhile (fun c=>c != 10):=by
    obtain ⟨d,e,_⟩:=eu (fun c=>c != 10) (37 :: t);exact (congrArg (List.take _) e).trans List.take_left
   rw [this] at hm;have h4:=fj (p:=fun c=>c != 10) (37 :: t);rw [List.all_eq_true] at h4;exact absurd (h4 10 hm) (by decide)
  cases hf:bc (c :: t) with
  | err x=>rw [qO hf h10 (by simpa using hb) h37] at h2;cases h2
  | ok kk n =>
   rw [qN hf] at h2;have hn:=dD hf
   cases hx:tk ((c :: t).drop n) line (col+n) with
   | err x=>rw [hx] at h2;cases h2
   | ok l' =>
    rw [hx] at h2;injection h2 with h2
    have hkl:k < l.length:=by
     rcases Nat.lt_or_ge k l.length with e | e
     ·exact e
     rw [List.drop_eq_nil_of_le e] at h2;cases h2
    rw [List.drop_eq_getElem_cons hkl] at h2;injection h2 with h4 h5;have hlt:((c :: t).take n).length=n:=by rw [List.length_take];omega
    right;have hg:l[k]?=some ⟨kk,(c :: t).take n,line,col⟩:=by rw [List.getElem?_eq_getElem hkl,h4]
    have hlen:i+n≤s.length:=by
     have:=congrArg List.length hd;rw [List.length_drop] at this;have h7:(c :: t).length≤s.length - i:=by omega
     have h8:0 < (c :: t).length:=by simp
     omega
    refine ⟨?_,⟨kk,(c :: t).take n,line,col⟩,hg,by dsimp only;omega,by dsimp only;omega,by dsimp only;rw [hlt,hd],?_⟩
    ·unfold jJ;rw [hg];simp
    dsimp only;rw [hlt];obtain ⟨m,rfl⟩:∃ m,n=m+1:=⟨n - 1,by omega⟩;have hno:=mH hf;rw [List.take_succ_cons] at hno;refine ⟨by omega,t.take m,t.drop m,by rw [hd1,List.take_append_drop],fun h=>hno (by simp [h]),?_,.inl ?_⟩
    ·unfold dE eM
     rw [if_neg h10,if_neg h10];have hm:(t.take m).length=m:=by rw [List.length_take];simp at hn;omega
     rw [hm,← h5];rw [List.drop_succ_cons] at hx;rw [show col+1+m=col+(m+1) by omega];exact hx
    rw [List.length_take];simp at hn;omega
 exact .inl (PlI.inner hk hd h1 hu h2 h3 hne)
end Bn

/- Walks: tokens: what a byte is. -/
namespace Go.Proofs.YtfilnhompchciaaGreatDoor
open Go Go.RowKit Bn
attribute [local go_sem ↓] Go.wp_at_zero Go.wp_at_succ
theorem gW (c d:UInt8):(c == d)=decide (c.toNat=d.toNat):=by
 by_cases h:c=d
 ·subst h;simp
 rw [beq_eq_false_iff_ne.2 h,decide_eq_false (fun e=>h (UInt8.toNat.inj e))]
theorem jK (c:UInt8):bT c=((decide (97≤c.toNat) && decide (c.toNat≤122)) || (decide (65≤c.toNat) && decide (c.toNat≤90))):=rfl
theorem ls (c:UInt8):aF c=(decide (48≤c.toNat) && decide (c.toNat≤57)):=rfl
theorem jL (c:UInt8):df c=(decide (c.toNat=123) || decide (c.toNat=125) || decide (c.toNat=59) || decide (c.toNat=46)):=by unfold df;rw [gW,gW,gW,gW];rfl
theorem bN (w:World) (c:UInt8) (v:Bool) (hv:bT c=v):Calls Tryz.prog 110 #[.int .u8 (c.toNat:Nat)] w (aE w (.bool v)):=by
 have hc:c.toNat < 256:=c.toNat_lt;obtain ⟨n,hn⟩:∃ n,c.toNat=n:=⟨_,rfl⟩;rw [hn] at hc ⊢;have hd:v=((decide (97≤n) && decide (n≤122)) || (decide (65≤n) && decide (n≤90))):=by rw [← hv,jK,hn]
 clear hv;rcases (show (0≤n∧n≤64)∨(65≤n∧n≤90)∨(91≤n∧n≤96)∨(97≤n∧n≤122)∨(123≤n∧n≤255) by omega) with ⟨ha,hb⟩ | ⟨ha,hb⟩ | ⟨ha,hb⟩ | ⟨ha,hb⟩ | ⟨ha,hb⟩
 ·have ege97:((97:Int)≤(n:Int))=False:=by simp;omega
  have ele122:((n:Int)≤122)=True:=by simp;omega
  have ege65:((65:Int)≤(n:Int))=False:=by simp;omega
  have ele90:((n:Int)≤90)=True:=by simp;omega
  obtain rfl:v=false:=by rw [hd];simp;omega
  clear hd hn;go_in;go_wp2;go_ret;exact dn rfl (aa w)
 ·have ege97:((97:Int)≤(n:Int))=False:=by simp;omega
  have ele122:((n:Int)≤122)=True:=by simp;omega
  have ege65:((65:Int)≤(n:Int))=True:=by simp;omega
  have ele90:((n:Int)≤90)=True:=by simp;omega
  obtain rfl:v=true:=by rw [hd];simp;omega
  clear hd hn;go_in;go_wp2;go_ret;exact dn rfl (aa w)
 ·have ege97:((97:Int)≤(n:Int))=False:=by simp;omega
  have ele122:((n:Int)≤122)=True:=by simp;omega
  have ege65:((65:Int)≤(n:Int))=True:=by simp;omega
  have ele90:((n:Int)≤90)=False:=by simp;omega
  obtain rfl:v=false:=by rw [hd];simp;omega
  clear hd hn;go_in;go_wp2;go_ret;exact dn rfl (aa w)
 ·have ege97:((97:Int)≤(n:Int))=True:=by simp;omega
  have ele122:((n:Int)≤122)=True:=by simp;omega
  have ege65:((65:Int)≤(n:Int))=True:=by simp;omega
  have ele90:((n:Int)≤90)=False:=by simp;omega
  obtain rfl:v=true:=by rw [hd];simp;omega
  clear hd hn;go_in;go_wp2;go_ret;exact dn rfl (aa w)
 have ege97:((97:Int)≤(n:Int))=True:=by simp;omega
 have ele122:((n:Int)≤122)=False:=by simp;omega
 have ege65:((65:Int)≤(n:Int))=True:=by simp;omega
 have ele90:((n:Int)≤90)=False:=by simp;omega
 obtain rfl:v=false:=by rw [hd];simp;omega
 clear hd hn;go_in;go_wp2;go_ret;exact dn rfl (aa w)
theorem fF (w:World) (c:UInt8) (v:Bool) (hv:aF c=v):Calls Tryz.prog 187 #[.int .u8 (c.toNat:Nat)] w (aE w (.bool v)):=by
 have hc:c.toNat < 256:=c.toNat_lt;obtain ⟨n,hn⟩:∃ n,c.toNat=n:=⟨_,rfl⟩;rw [hn] at hc ⊢;have hd:v=(decide (48≤n) && decide (n≤57)):=by rw [← hv,ls,hn]
 clear hv;rcases (show (0≤n∧n≤47)∨(48≤n∧n≤57)∨(58≤n∧n≤255) by omega) with ⟨ha,hb⟩ | ⟨ha,hb⟩ | ⟨ha,hb⟩
 ·have ege48:((48:Int)≤(n:Int))=False:=by simp;omega
  have ele57:((n:Int)≤57)=True:=by simp;omega
  obtain rfl:v=false:=by rw [hd];simp;omega
  clear hd hn;go_in;go_wp2;go_ret;exact dn rfl (aa w)
 ·have ege48:((48:Int)≤(n:Int))=True:=by simp;omega
  have ele57:((n:Int)≤57)=True:=by simp;omega
  obtain rfl:v=true:=by rw [hd];simp;omega
  clear hd hn;go_in;go_wp2;go_ret;exact dn rfl (aa w)
 have ege48:((48:Int)≤(n:Int))=True:=by simp;omega
 have ele57:((n:Int)≤57)=False:=by simp;omega
 obtain rfl:v=false:=by rw [hd];simp;omega
 clear hd hn;go_in;go_wp2;go_ret;exact dn rfl (aa w)
def atB (s:List UInt8) (i:Nat):UInt8:=s.getD i 0
theorem cO {s:List UInt8}{i:Nat}(h:i < s.length):atB s i=s[i]:=by unfold atB;rw [List.getD_eq_getElem?_getD,List.getElem?_eq_getElem h];rfl
theorem dS {s:List UInt8}{i:Nat}(h:s.length≤i):atB s i=0:=by unfold atB;rw [List.getD_eq_getElem?_getD,List.getElem?_eq_none h];rfl
theorem aR {s:List UInt8}{i:Nat}(h:i < s.length):s.drop i=atB s i :: s.drop (i+1):=by rw [cO h];exact List.drop_eq_getElem_cons h
theorem nB {p:UInt8→Bool}{s:List UInt8}{i:Nat}(hp:p 0=false) (h:p (atB s i)=true):i < s.length∧((s.drop i).takeWhile p).length=1+((s.drop (i+1)).takeWhile p).length:=by
 have hl:i < s.length:=by
  rcases Nat.lt_or_ge i s.length with x | x
  ·exact x
  rw [dS x,hp] at h;cases h
 refine ⟨hl,?_⟩;rw [aR hl,List.takeWhile_cons,if_pos h,List.length_cons];omega
theorem gX {p:UInt8→Bool}{s:List UInt8}{i:Nat}(h:p (atB s i)=false):((s.drop i).takeWhile p).length=0:=by
 rcases Nat.lt_or_ge i s.length with x | x
 ·rw [aR x,List.takeWhile_cons,if_neg (by rw [h];decide)];rfl
 rw [List.drop_eq_nil_of_le x];rfl
theorem qP {s:List UInt8}{i:Nat}(h:bT (atB s i)=true):i < s.length∧bq (s.drop i)=1+((s.drop (i+1)).takeWhile aY).length:=by
 have hl:i < s.length:=by
  rcases Nat.lt_or_ge i s.length with x | x
  ·exact x
  rw [dS x] at h;cases h
 refine ⟨hl,?_⟩;rw [aR hl,bq,if_pos h]
theorem lu {s:List UInt8}{i:Nat}(h:bT (atB s i)=false):bq (s.drop i)=0:=by
 rcases Nat.lt_or_ge i s.length with x | x
 ·rw [aR x,bq,if_neg (by rw [h];decide)]
 rw [List.drop_eq_nil_of_le x];rfl
theorem qQ {c:UInt8}(h:bT c=true):aY c=true:=by unfold aY;rw [h];rfl
theorem qR {c:UInt8}(h:aF c=true):aY c=true:=by unfold aY;rw [h,Bool.or_true];rfl
theorem qS {c:UInt8}(h:(c == 95)=true):aY c=true:=by unfold aY;rw [h,Bool.or_true]
theorem qT {c:UInt8}(h1:bT c=false) (h2:aF c=false) (h3:(c == 95)=false):aY c=false:=by unfold aY;rw [h1,h2,h3];rfl
theorem av (c d:UInt8):(((c.toNat:Nat):Int) == ((d.toNat:Nat):Int))=(c == d):=by
 by_cases h:c=d
 ·subst h;simp
 rw [beq_eq_false_iff_ne.2 h,beq_eq_false_iff_ne];intro e;exact h (UInt8.toNat.inj (by omega))
theorem qU (w:World) (c:UInt8) (v:Bool) (hv:aY c=v):Calls Tryz.prog 148 #[.int .u8 (c.toNat:Nat)] w (aE w (.bool v)):=by
 cases hl:bT c
 ·cases hd:aF c
  ·cases hu:(c == 95)
   ·obtain rfl:v=false:=by rw [← hv];exact qT hl hd hu
    have h95:(((c.toNat:Nat):Int) == 95)=false:=(av c 95).trans hu;clear hv hu;go_in;go_wp2_with fail;(with_reducible refine (bN _ c false hl).mono ?_);rintro e w1 ⟨rfl,q1⟩;have bw1:=(aa w).trans (q1.mono (aa w).size);have lw1:=q1.size;clear q1;go_wp2_with fail;(with_reducible refine (fF _ c false hd).mono ?_);rintro e w2 ⟨rfl,q2⟩;have bw2:=bw1.trans (q2.mono bw1.size);have lw2:=q2.size;clear q2 bw1;go_wp2;go_ret;exact dn rfl bw2
   obtain rfl:v=true:=by rw [← hv];exact qS hu
   have h95:(((c.toNat:Nat):Int) == 95)=true:=(av c 95).trans hu;clear hv hu;go_in;go_wp2_with fail;(with_reducible refine (bN _ c false hl).mono ?_);rintro e w1 ⟨rfl,q1⟩;have bw1:=(aa w).trans (q1.mono (aa w).size);have lw1:=q1.size;clear q1;go_wp2_with fail;(with_reducible refine (fF _ c false hd).mono ?_);rintro e w2 ⟨rfl,q2⟩;have bw2:=bw1.trans (q2.mono bw1.size);have lw2:=q2.size;clear q2 bw1;go_wp2;go_ret;exact dn rfl bw2
  obtain rfl:v=true:=by rw [← hv];exact qR hd
  clear hv;go_in;go_wp2_with fail;(with_reducible refine (bN _ c false hl).mono ?_);rintro e w1 ⟨rfl,q1⟩;have bw1:=(aa w).trans (q1.mono (aa w).size);have lw1:=q1.size;clear q1;go_wp2_with fail;(with_reducible refine (fF _ c true hd).mono ?_);rintro e w2 ⟨rfl,q2⟩;have bw2:=bw1.trans (q2.mono bw1.size);have lw2:=q2.size;clear q2 bw1;go_wp2;go_ret;exact dn rfl bw2
 obtain rfl:v=true:=by rw [← hv];exact qQ hl
 clear hv;go_in;go_wp2_with fail;(with_reducible refine (bN _ c true hl).mono ?_);rintro e w1 ⟨rfl,q1⟩;have bw1:=(aa w).trans (q1.mono (aa w).size);have lw1:=q1.size;clear q1;go_wp2;go_ret;exact dn rfl bw1
theorem qV (w:World) (s:List UInt8) (i:Nat) (hi:i≤s.length) (hs:s.length < 4611686018427387904) (v:Nat) (hv:bR (s.drop i)=v):Calls Tryz.prog 149 #[af s,.int .i64 (i:Nat)] w (aE w (.int .i64 (v:Nat))):=by
 have HV:Hid (0+((s.drop (i+0)).takeWhile aF).length=v):=Qh (by rw [← hv,Nat.zero_add];rfl);have hszs:=ai s;clear hv;go_in;go_wp2_with fail;go_loopw [5] (fun iv wr=>∃ (j:Nat),iv=.int .i64 (j:Nat)∧i+j≤s.length∧Hid (j+((s.drop (i+j)).takeWhile aF).length=v)∧Kp w wr∧Below w.heap.size w wr∧w.heap.size≤wr.heap.size) (fun iv _=>s.length - (intOf iv).toNat)
 case atStart=>exact ⟨0,rfl,hi,HV,Kp.refl _,(aa w),Qr⟩
 case round =>
  obtain ⟨j,rfl,hj,hw,hkp,hbw,hlw⟩:=hrel;have hw1:IntKind.i64.wrap ((i:Int)+(j:Int))=(i:Int)+(j:Int):=IntWalk.i64_in _ ⟨by omega,by omega⟩;rcases Nat.lt_or_ge (i+j) s.length with hl | hl
  ·obtain ⟨d,hd⟩:∃ d,atB s (i+j)=d:=⟨_,rfl⟩
   have hi0:(0:Int)≤(i:Int)+(j:Int):=by omega
   have hi1:(i:Int)+(j:Int) < (s.length:Int):=by omega
   have et:((i:Int)+(j:Int)).toNat=i+j:=by omega
   have hget:∀ h,(⟨s.toArray⟩:ByteArray)[i+j]'h=d:=fun h=>by rw [← hd];exact (cO hl).symm
   cases hg:aF d
   ·have hjv:j=v:=by rw [← hw.out,gX (p:=aF) (by rw [hd];exact hg)];rfl
    subst hjv;clear hd;go_wp2_with fail;(with_reducible refine (fF _ d false hg).mono ?_);rintro e w1 ⟨rfl,q1⟩;replace hkp:=hkp.below q1;have bw1:=hbw.trans (q1.mono hbw.size);have lw1:=q1.size;clear q1;go_wp2;go_ret;exact ⟨rfl,bw1⟩
   obtain ⟨_,hst⟩:=nB (p:=aF) (s:=s) (i:=i+j) rfl (by rw [hd];exact hg);have hw2:Hid (j+1+((s.drop (i+(j+1))).takeWhile aF).length=v):=Qh (by rw [← hw.out,hst,Nat.add_assoc i j 1];omega);clear hst hd;go_wp2_with fail;(with_reducible refine (fF _ d true hg).mono ?_);rintro e w1 ⟨rfl,q1⟩;replace hkp:=hkp.below q1;have bw1:=hbw.trans (q1.mono hbw.size);have lw1:=q1.size;clear q1;go_wp2_with fail;go_roundw
   case rel=>exact ⟨j+1,by go_num,by omega,hw2,hkp,bw1,by omega⟩
   case measure=>simp [intOf];omega
  have hjv:j=v:=by rw [← hw.out,gX (p:=aF) (by rw [dS hl];rfl)];rfl
  subst hjv;have hi1:((i:Int)+(j:Int) < (s.length:Int))=False:=by simp;omega
  go_wp2;go_ret;exact ⟨rfl,hbw⟩
theorem ci (w:World) (s:List UInt8) (hs:s.length < 4611686018427387904) (v:Nat) (hv:bq s=v):Calls Tryz.prog 108 #[af s] w (aE w (.int .i64 (v:Nat))):=by
 have hszs:=ai s;rcases Nat.eq_zero_or_pos s.length with h0 | h0
 ·obtain rfl:s=[]:=List.eq_nil_of_length_eq_zero h0
  obtain rfl:0=v:=hv;clear hs;go_in;go_wp2;go_ret;exact ⟨rfl,(aa w)⟩
 obtain ⟨y,ys,hyy⟩:∃ y ys,s=y :: ys:=List.exists_cons_of_length_pos h0;have hBe:((⟨s.toArray⟩:ByteArray) == ⟨#[]⟩)=false:=by rw [hyy];rfl
 have hBl:(s == [])=false:=by rw [hyy];rfl
 have hBn:(s=[])=False:=by rw [hyy];simp
 clear hyy;obtain ⟨d,hd⟩:∃ d,atB s 0=d:=⟨_,rfl⟩;have hget:∀ h,(⟨s.toArray⟩:ByteArray)[0]'h=d:=fun h=>by rw [← hd];exact (cO h0).symm
 have hi1:(0:Int) < (s.length:Int):=by omega
 cases hl:bT d
 ·obtain rfl:0=v:=by rw [← hv];exact (lu (s:=s) (i:=0) (by rw [hd];exact hl)).symm
  clear hd hv;go_in;go_wp2_with fail;(with_reducible refine (bN _ d false hl).mono ?_);rintro e w1 ⟨rfl,q1⟩;have bw1:=(aa w).trans (q1.mono (aa w).size);have lw1:=q1.size;clear q1;go_wp2;go_ret;exact ⟨rfl,bw1⟩
 have HV:Hid (1+((s.drop 1).takeWhile aY).length=v):=Qh (by rw [← hv];exact ((qP (s:=s) (i:=0) (by rw [hd];exact hl)).2).symm);clear hv hd;go_in;go_wp2_with fail;(with_reducible refine (bN _ d true hl).mono ?_);rintro e w1 ⟨rfl,q1⟩;have bw1:=(aa w).trans (q1.mono (aa w).size);have lw1:=q1.size;clear q1;go_wp2_with fail;clear hget hl hi1 hBe hBl hBn;go_loopw [3] (fun iv wr=>∃ (j:Nat),iv=.int .i64 (j:Nat)∧j≤s.length∧Hid (j+((s.drop j).takeWhile aY).length=v)∧Kp w1 wr∧Below w.heap.size w wr∧w1.heap.size≤wr.heap.size) (fun iv _=>s.length - (intOf iv).toNat)
 case atStart=>exact ⟨1,rfl,h0,HV,Kp.refl _,bw1,Qr⟩
 case round =>
  obtain ⟨j,rfl,hj,hw,hkp,hbw,hlw⟩:=hrel;rcases Nat.lt_or_ge j s.length with hl | hl
  ·obtain ⟨d,hd⟩:∃ d,atB s j=d:=⟨_,rfl⟩
   have hget:∀ h,(⟨s.toArray⟩:ByteArray)[j]'h=d:=fun h=>by rw [← hd];exact (cO hl).symm
   have hlt:j < s.length:=hl;cases hg:aY d
   ·have hjv:j=v:=by rw [← hw.out,gX (p:=aY) (by rw [hd];exact hg)];rfl
    subst hjv;clear hd;go_wp2_with fail;(with_reducible refine (qU _ d false hg).mono ?_);rintro e w2 ⟨rfl,q2⟩;replace hkp:=hkp.below q2;have bw2:=hbw.trans (q2.mono hbw.size);have lw2:=q2.size;clear q2;go_wp2;go_ret;exact ⟨rfl,bw2⟩
   obtain ⟨_,hst⟩:=nB (p:=aY) (s:=s) (i:=j) rfl (by rw [hd];exact hg);have hw2:Hid (j+1+((s.drop (j+1)).takeWhile aY).length=v):=Qh (by rw [← hw.out,hst];omega);clear hst hd;go_wp2_with fail;(with_reducible refine (qU _ d true hg).mono ?_);rintro e w2 ⟨rfl,q2⟩;replace hkp:=hkp.below q2;have bw2:=hbw.trans (q2.mono hbw.size);have lw2:=q2.size;clear q2;go_wp2_with fail;go_roundw
   case rel=>exact ⟨j+1,by go_num,by omega,hw2,hkp,bw2,by omega⟩
   case measure=>simp [intOf];omega
  have hjv:j=v:=by rw [← hw.out,gX (p:=aY) (by rw [dS hl];rfl)];rfl
  subst hjv;have hi1:((j:Int) < (s.length:Int))=False:=by simp;omega
  go_wp2;go_ret;exact ⟨rfl,hbw⟩
theorem aw (w:World) (s:List UInt8) (x:Int) (i:Nat) (hx:x=((i:Nat):Int)) (hi:i≤s.length) (hs:s.length < 4611686018427387904) (y:Int) (hy:((bR (s.drop i):Nat):Int)=y):Calls Tryz.prog 149 #[af s,.int .i64 x] w (aE w (.int .i64 y)):=by
 subst hx hy;exact qV w s i hi hs _ rfl

theorem lw (l:List Nat):(cellsOf l).toList=words l:=by simp [cellsOf,words]
theorem OwS.made (w:World) {B:Nat}(L:List Nat) (n:Nat) (hB:B≤w.heap.size) (hn:n≤4398046511104) (hL:L.length=n) (hW:Wds L):OwS (w.alloc (.cells (cellsOf L) 58)) B w.heap.size n n L:=by
 refine ⟨?_,hW⟩;rw [← lw];exact World.ownsRow_lit w (cellsOf L) n hB (by unfold maxLen;omega) (by simp [cellsOf,hL])
theorem OwS.far {w:World}{B g n cap:Nat}{l:List Nat}(h:OwS w B g n cap l) {p:Addr}(hp:g≠p.block) (u:Value):OwS (w.setCell p u) B g n cap l:=by
 refine ⟨⟨h.1.1,?_⟩,h.2⟩;rcases h.1.2 with ⟨e,_⟩ | ⟨g',c',cur,e,hB,hgg,r⟩
 ·cases e
 have e':=e;injection e with e1 _ e2;injection e1 with e1;injection e1 with e1;subst e1;exact .inr ⟨g,c',cur,e',hB,(Below.heap_setCell w p u g hp).trans hgg,r⟩
theorem Four.b {w w':World}{g1 g2 g3 g4 t:Nat}{c1 c2 c3 c4:Array Value}(X:Blk w g1 t c1∧Blk w g2 t c2∧Blk w g3 t c3∧Blk w g4 t c4) (hb:Below w.heap.size w w'):Blk w' g1 t c1∧Blk w' g2 t c2∧Blk w' g3 t c3∧Blk w' g4 t c4:=⟨X.1.below hb X.1.lt,X.2.1.below hb X.2.1.lt,X.2.2.1.below hb X.2.2.1.lt,X.2.2.2.below hb X.2.2.2.lt⟩
theorem FourV.b {w w':World}{b1 b2 b3 b4:Bool}{A1 A2 A3 A4:Option Addr}{n1 n2 n3 n4 c1 c2 c3 c4 k1 k2 k3 k4:Nat}{z1 z2 z3 z4:Int}(H:IV w b1 A1 n1 c1 z1 k1∧IV w b2 A2 n2 c2 z2 k2∧IV w b3 A3 n3 c3 z3 k3∧IV w b4 A4 n4 c4 z4 k4) (hb:Below w.heap.size w w'):IV w' b1 A1 n1 c1 z1 k1∧IV w' b2 A2 n2 c2 z2 k2∧IV w' b3 A3 n3 c3 z3 k3∧IV w' b4 A4 n4 c4 z4 k4:=⟨H.1.belw hb,H.2.1.belw hb,H.2.2.1.belw hb,H.2.2.2.belw hb⟩
end Go.Proofs.YtfilnhompchciaaGreatDoor
namespace Bn
open Go.Lib
def bG (q:Rat):List UInt8:=if q.den=1 then itoa q.num else itoa q.num ++ 47 :: itoa (q.den:Int)
theorem qW {c:UInt8}:∀ {a b:List UInt8},c ∉ a→index (a ++ c :: b) [c]=(a.length:Int):=by
 intro a
 induction a with
 | nil=>intro b _;rw [List.nil_append,index,if_pos (by simp [List.isPrefixOf])];rfl
 | cons x r ih =>
  intro b h;simp at h;have hp:List.isPrefixOf [c] (x :: (r ++ c :: b))=false:=by simp [List.isPrefixOf];exact h.1
  rw [List.cons_append,index,hp,ih (b:=b) h.2];have:((r.length:Int) == -1)=false:=by rw [beq_eq_false_iff_ne];omega
  simp [this]
theorem qX {c:UInt8}:∀ {a:List UInt8},c ∉ a→index a [c]=-1:=by
 intro a
 induction a with
 | nil=>intro _;rfl
 | cons x r ih =>
  intro h;simp at h;have hp:List.isPrefixOf [c] (x :: r)=false:=by simp [List.isPrefixOf];exact h.1
  rw [index,hp,ih h.2];rfl
theorem cZ {c:UInt8}{a b:List UInt8}(h:c ∉ a):cut (a ++ c :: b) [c]=(a,b,true):=by
 unfold cut;rw [qW h,if_pos (by omega)];simp
theorem dT {c:UInt8}{a:List UInt8}(h:c ∉ a):cut a [c]=(a,[],false):=by
 unfold cut;rw [qX h,if_neg (by omega)]
end Bn

/- Walks: what the integer laws lean on: short, Same; roots and texts as values. -/
namespace Go.Proofs.YtfilnhompchciaaGreatDoor
open Go Go.RowKit Bn
attribute [local go_sem ↓] Go.wp_at_zero Go.wp_at_succ
def Ws (w:World) (g N:Nat) (ns:Nat→Nat):Prop:=g < w.heap.size∧∀ i,i < N→∃ b A c,w.cell? ⟨g,i * 2,none⟩=some (.bool b)∧w.cell? ⟨g,i * 2+1,none⟩=some (.slice A (ns i) c)
theorem Ws.belw {w w':World}{g N:Nat}{ns:Nat→Nat}(h:Ws w g N ns) (hb:Below w.heap.size w w'):Ws w' g N ns:=by
 obtain ⟨hg,h⟩:=h;have hc:=(bM hb).1;refine ⟨Nat.lt_of_lt_of_le hg hb.size,fun i hi=>?_⟩;obtain ⟨b,A,c,h1,h2⟩:=h i hi;exact ⟨b,A,c,(hc _ _ hg).trans h1,(hc _ _ hg).trans h2⟩
theorem IZ.short {w:World}{b:Bool}{A:Option Addr}{n c k:Nat}{z:Int}(h:IZ w b A n c z k) (hs:n≤30):IZ w b A n c z 30:=by
 obtain ⟨l,h1,h2,_⟩:=h;exact ⟨l,h1,h2,hs⟩
theorem sJ (a b:Rat):dq (a.num * b.den) (b.num * a.den)=mw a b:=by
 unfold dq mw;have h:=uU a b;by_cases h1:a < b
 ·rw [if_pos h1,if_pos (h.1.2 h1)]
 rw [if_neg h1,if_neg (fun x=>h1 (h.1.1 x))];by_cases h2:a=b
 ·rw [if_pos h2,if_pos (h.2.2 h2)]
 rw [if_neg h2,if_neg (fun x=>h2 (h.2.1 x))]
theorem gY (w:World) (b A n c D m e q k) (h:QZ w b A n c D m e q k) (b' A' n' c' D' m' e' q' k') (h':QZ w b' A' n' c' D' m' e' q' k') (s:Int) (hs:mw q q'=s) (h0:0 < k) (hk:k≤40000000) (h0':0 < k') (hk':k'≤40000000):Calls Tryz.prog 155 #[.agg #[.bool b,.slice A n c,.slice D m e],.agg #[.bool b',.slice A' n' c',.slice D' m' e']] w (aE w (.int .i64 s)):=by
 subst hs;rw [← sJ];exact vz w b A n c D m e q k h b' A' n' c' D' m' e' q' k' h' h0 hk h0' hk'
theorem qY (w:World) (b A n c z k) (h:IZ w b A n c z k) (b' A' n' c' z' k') (h':IZ w b' A' n' c' z' k') (hd:z'=0) (hk:k+k'≤300000000) :
 Calls Tryz.prog 191 #[.agg #[.bool b,.slice A n c],.agg #[.bool b',.slice A' n' c']] w (fy w (.iface 49 (.int .i64 8)) 0 1):=by
 have HS:=Qh (show z'.sign=0 by rw [hd];rfl);clear hd;go_in;go_wp2_with fail;(with_reducible refine (ef _ b' A' n' c' (z') (k') ?_ 0 ?_ ?_).mono ?_);(exact (h'.belw ((((Below.refl _ _).alloc Qr _).alloc (by simp) _).alloc (by simp <;> omega) _)));(exact HS.out);(omega);rintro e w1 ⟨rfl,hb1⟩;have q1:=hb1.q3;replace h:=h.belw q1;replace h':=h'.belw q1;have x1a:Blk w1 w.heap.size 194 #[.bool b,.slice A n c]:=(((am _ _ _ (by simp)).alloc _).alloc _).below hb1 (by simp <;> omega);have x1b:=((am _ _ _ (g:=w.heap.size+1) (by simp)).alloc _).below hb1 (by simp <;> omega);have x1c:=(am _ _ _ (g:=w.heap.size+1+1) (by simp)).below hb1 (by simp);have bw1:=(aa w).trans (q1.mono (aa w).size);have lw1:=hb1.l3;clear q1;have cx1c:=x1c.c3;have fx1c:=x1c.f3;have lx1c:=sk x1c.lt;go_wp2_with fail;refine bodyPost_ret (v:=.tuple #[.agg #[.bool false,.slice none 0 0,.slice none 0 0],.iface 49 (.int .i64 8)]) (by simp [results,Tryz.results191,go_sem, *] <;> trivial) rfl ?_;exact ⟨_,_,_,_,_,_,_,rfl,QV.zero _ _,(((bw1.sc (w.heap.size+1+1) 0 (by omega) (.bool false)).sc (w.heap.size+1+1) 1 (by omega) (.slice none 0 0)).sc (w.heap.size+1+1) 2 (by omega) (.slice none 0 0))⟩

theorem iy (w:World) (b A n c z k) (h:IZ w b A n c z k) (T:List UInt8) (hk:k≤1000000000) (ht:Tab w) (hT:Lib.itoa z=T):Calls Tryz.prog 182 #[.agg #[.bool b,.slice A n c]] w (aE w (af T)):=by
 subst hT;obtain ⟨l,h1,rfl,h3⟩:=h;exact uq w b A n c l h1 (by omega) ht
theorem nC (w:World) (b A n c z k) (h:IZ w b A n c z k) (b' A' n' c' z' k') (h':IZ w b' A' n' c' z' k') (v:Int) (hv:dq z z'=v) (hk:k+k'≤1000000000):Calls Tryz.prog 152 #[.agg #[.bool b,.slice A n c],.agg #[.bool b',.slice A' n' c']] w (aE w (.int .i64 v)):=by
 subst hv;exact qi w b A n c z k h b' A' n' c' z' k' h' hk
end Go.Proofs.YtfilnhompchciaaGreatDoor
namespace Bn
open Go.Lib
def tH (F B:List UInt8):Bool:=okZ (bF F) && decide (0≤dQ (bF F)) && decide (B≠[]) && B.all aF
def vB (F B:List UInt8):Int:=dQ (bF F) * 10 ^ B.length+ah B
def vY (F B:List UInt8):Rat:=Rat.divInt (if bS F then -(vB F B) else vB F B) (10 ^ B.length)
def tI (F B:List UInt8):Bool:=okZ F && okZ B && decide (0 < dQ B) && decide (dQ B≠1) && decide (Nat.gcd (dQ F).natAbs (dQ B).natAbs=1)
inductive vN (s:List UInt8) (x:Int) (q:Rat):Prop
  | big (h:65536 < s.length) (hx:x=4) (hq:q=0)
  | dot (F B:List UInt8) (hl:s.length≤65536) (hs:s=F ++ 46 :: B) (hF:46 ∉ F) (h64:s.length≤64) (h:tH F B=true) (hx:x=0) (hq:q=vY F B)
  | dotNo (F B:List UInt8) (hl:s.length≤65536) (hs:s=F ++ 46 :: B) (hF:46 ∉ F) (h:64 < s.length∨tH F B=false) (hx:x=2) (hq:q=0)
  | quo (F B:List UInt8) (hl:s.length≤65536) (hd:46 ∉ s) (hs:s=F ++ 47 :: B) (hF:47 ∉ F) (h:tI F B=true) (hx:x=0) (hq:q=Rat.divInt (dQ F) (dQ B))
  | quoNo (F B:List UInt8) (hl:s.length≤65536) (hd:46 ∉ s) (hs:s=F ++ 47 :: B) (hF:47 ∉ F) (h:tI F B=false) (hx:x=2) (hq:q=0)
  | whole (hl:s.length≤65536) (hd:46 ∉ s) (hs:47 ∉ s) (h:okZ s=true) (hx:x=0) (hq:q=((dQ s:Int):Rat))
  | wholeNo (hl:s.length≤65536) (hd:46 ∉ s) (hs:47 ∉ s) (h:okZ s=false) (hx:x=2) (hq:q=0)
end Bn

/- Walks: linkworkref01.Parse. -/
namespace Go.Proofs.YtfilnhompchciaaGreatDoor
open Go Go.RowKit Bn
attribute [local go_sem ↓] Go.wp_at_zero Go.wp_at_succ

def oO (w:World) (T:List UInt8) (m:Bool) (k:Nat) (e:Ending) (w':World):Prop :=
  if T.all aF=true then fC w (.int .i64 0) (if m then -(ah T:Int) else ah T) k e w' else fC w (.int .i64 2) 0 0 e w'
theorem oO.bad {w w':World}{T:List UInt8}{m:Bool}{k:Nat}{e:Ending}(h:¬ T.all aF=true) (hr:fC w (.int .i64 2) 0 0 e w'):oO w T m k e w':=by
 unfold oO;rw [if_neg h];exact hr
theorem oO.good {w w':World}{T:List UInt8}{m:Bool}{k:Nat}{e:Ending}(h:T.all aF=true) (hr:fC w (.int .i64 0) (if m then -(ah T:Int) else ah T) k e w'):oO w T m k e w':=by
 unfold oO;rw [if_pos h];exact hr
def ba (x:Int):Value:=if x=0 then .nilIface else .iface 49 (.int .i64 x)
theorem bH:ba 0=.nilIface:=if_pos rfl
theorem fC.mono {w w':World}{v:Value}{z:Int}{k j:Nat}{e:Ending}(h:fC w v z k e w') (hk:k≤j):fC w v z j e w':=by
 obtain ⟨b,A,n,c,h1,h2,h3⟩:=h;exact ⟨b,A,n,c,h1,h2.mono hk,h3⟩
theorem sK (s:List UInt8) (i:Nat):bX (s.drop i)=if atB s i=45 then 1 else 0:=by
 rcases Nat.lt_or_ge i s.length with h | h
 ·rw [aR h]
  unfold bX;split
  ·rename_i e;injection e with e1 e2;rw [if_pos e1]
  rename_i e;rw [if_neg (fun e1=>e _ (by rw [e1]))]
 rw [List.drop_eq_nil_of_le h,dS h];rfl
theorem qZ (s:List UInt8) (i:Nat):d8 (s.drop i)=if (atB s i == 46 || atB s i == 47) && decide (0 < bR (s.drop (i+1))) then 1+bR (s.drop (i+1)) else 0:=by
 rcases Nat.lt_or_ge i s.length with h | h
 ·rw [aR h];rfl
 rw [List.drop_eq_nil_of_le h,dS h];rfl
theorem gz {s:List UInt8}{i v:Nat}(hv:bp (s.drop i)=v):∃ m k,((m=1∧atB s i=45)∨(m=0∧atB s i≠45))∧bR (s.drop (i+m))=k ∧
 ((k=0∧v=0)∨(0 < k∧∃ d,atB s (i+m+k)=d∧((d≠46∧d≠47∧v=m+k)∨((d=46∨d=47)∧∃ t,bR (s.drop (i+m+k+1))=t∧((t=0∧v=m+k)∨(0 < t∧v=m+k+(1+t))))))):=by
 unfold bp at hv;rw [sK,List.drop_drop] at hv;obtain ⟨m,hm⟩:∃ m,(if atB s i=45 then 1 else 0)=m:=⟨_,rfl⟩;rw [hm] at hv
 have hm2:(m=1∧atB s i=45)∨(m=0∧atB s i≠45):=by
  by_cases h:atB s i=45
  ·rw [if_pos h] at hm;exact .inl ⟨hm.symm,h⟩
  rw [if_neg h] at hm;exact .inr ⟨hm.symm,h⟩
 obtain ⟨k,hk⟩:∃ k,bR (s.drop (i+m))=k:=⟨_,rfl⟩;rw [hk,List.drop_drop,qZ,← Nat.add_assoc] at hv;refine ⟨m,k,hm2,hk,?_⟩;by_cases h0:k=0
 ·rw [if_pos h0] at hv;exact .inl ⟨h0,hv.symm⟩
 rw [if_neg h0] at hv;refine .inr ⟨by omega,_,rfl,?_⟩;by_cases h1:atB s (i+m+k)=46∨atB s (i+m+k)=47
 ·have e:(atB s (i+m+k) == 46 || atB s (i+m+k) == 47)=true:=by rcases h1 with h | h <;> rw [h] <;> rfl
  rw [e,Bool.true_and] at hv;refine .inr ⟨h1,_,rfl,?_⟩;by_cases h2:0 < bR (s.drop (i+m+k+1))
  ·rw [if_pos (decide_eq_true h2)] at hv;exact .inr ⟨h2,hv.symm⟩
  rw [if_neg (by rw [decide_eq_false h2];decide)] at hv;exact .inl ⟨by omega,by omega⟩
 have a1:atB s (i+m+k)≠46:=fun h=>h1 (.inl h)
 have a2:atB s (i+m+k)≠47:=fun h=>h1 (.inr h)
 rw [beq_eq_false_iff_ne.2 a1,beq_eq_false_iff_ne.2 a2,Bool.or_self,Bool.false_and,if_neg (by decide)] at hv;exact .inl ⟨a1,a2,by omega⟩
theorem cD {s:List UInt8}{i k:Nat}(h:bR (s.drop i)=k) (hk:0 < k):i+k≤s.length:=by
 have:=ks (s.drop i);rw [h,List.length_drop] at this;omega
theorem lx (s:List UInt8):bS s=(atB s 0 == 45):=by
 cases s with
 | nil=>rfl
 | cons c t =>
  by_cases h:c=45
  ·subst h;rfl
  have e:(c == 45)=false:=beq_eq_false_iff_ne.2 h;show bS (c :: t)=(c == 45);rw [e];unfold bS;split
  ·rename_i h1;injection h1 with h2;exact absurd h2 h
  rfl
theorem ky {s:List UInt8}{i:Nat}{d:UInt8}(h:atB s i=d) (hd:d≠0):i < s.length:=by
 rcases Nat.lt_or_ge i s.length with x | x
 ·exact x
 rw [dS x] at h;exact absurd h.symm hd
theorem bO (w:World) (s:List UInt8) (hs:s.length < 4611686018427387904) (v:Nat) (hv:bp s=v):Calls Tryz.prog 109 #[af s] w (aE w (.int .i64 (v:Nat))):=by
 have hszs:=ai s;obtain ⟨m,k,hm,hk,hc⟩:=gz (s:=s) (i:=0) hv;rw [Nat.zero_add] at hk;simp only [Nat.zero_add] at hc;clear hv;rcases hm with ⟨rfl,ham⟩ | ⟨rfl,ham⟩
 ·have h0d:0 < s.length:=ky ham (by decide)
  have hM:bS s=true:=by rw [lx];simp [ham]
  clear ham;rcases hc with ⟨hk0,hv0⟩ | ⟨hkp,d,hd,hc⟩
  ·subst hv0
   subst hk0;go_in;go_wp2_with fail;(with_reducible refine (aV _ (s) true hM).mono ?_);rintro e w1 ⟨rfl,q1⟩;have bw1:=(aa w).trans (q1.mono (aa w).size);have lw1:=q1.size;clear q1;go_wp2_with fail;(with_reducible refine (aw _ (s) (1) (1) (by omega) (by omega) hs (0) (by have h9:=hk;omega)).mono ?_);rintro e w2 ⟨rfl,q2⟩;have bw2:=bw1.trans (q2.mono bw1.size);have lw2:=q2.size;clear q2 bw1;go_wp2;go_ret;exact cJ (by omega) bw2
  have hle:1+k≤s.length:=by have:=cD hk hkp;omega
  have hk9:((k:Int) == 0)=false:=by simp;omega
  have hk8:((k:Int)=0)=False:=by simp;omega
  rcases hc with ⟨hd1,hd2,hv9⟩ | ⟨hdd,t,ht,hc⟩
  ·have e46:(((d.toNat:Nat):Int) == 46)=false:=(av d 46).trans (by simp [hd1])
   have e47:(((d.toNat:Nat):Int) == 47)=false:=(av d 47).trans (by simp [hd2]);clear hd1 hd2;replace hv9:=hv9.symm;subst hv9;have hwe:IntKind.i64.wrap (1+(k:Int))=1+(k:Int):=IntWalk.i64_in _ ⟨by omega,by omega⟩;rcases Nat.lt_or_ge (1+k) s.length with hl | hl
   ·have hget:∀ h,(⟨s.toArray⟩:ByteArray)[1+k]'h=d:=fun h=>by rw [← hd];exact (cO hl).symm
    have et:(1+(k:Int)).toNat=1+k:=by omega
    have hei:1+(k:Int) < (s.length:Int):=by omega
    have he0:(0:Int)≤1+(k:Int):=by omega
    go_in;go_wp2_with fail;(with_reducible refine (aV _ (s) true hM).mono ?_);rintro e w1 ⟨rfl,q1⟩;have bw1:=(aa w).trans (q1.mono (aa w).size);have lw1:=q1.size;clear q1;go_wp2_with fail;(with_reducible refine (aw _ (s) (1) (1) (by omega) (by omega) hs ((k:Int)) (by have h9:=hk;omega)).mono ?_);rintro e w2 ⟨rfl,q2⟩;have bw2:=bw1.trans (q2.mono bw1.size);have lw2:=q2.size;clear q2 bw1;go_wp2;go_ret;exact cJ (by omega) bw2
   have hei:(1+(k:Int) < (s.length:Int))=False:=by simp;omega
   go_in;go_wp2_with fail;(with_reducible refine (aV _ (s) true hM).mono ?_);rintro e w1 ⟨rfl,q1⟩;have bw1:=(aa w).trans (q1.mono (aa w).size);have lw1:=q1.size;clear q1;go_wp2_with fail;(with_reducible refine (aw _ (s) (1) (1) (by omega) (by omega) hs ((k:Int)) (by have h9:=hk;omega)).mono ?_);rintro e w2 ⟨rfl,q2⟩;have bw2:=bw1.trans (q2.mono bw1.size);have lw2:=q2.size;clear q2 bw1;go_wp2;go_ret;exact cJ (by omega) bw2
  have hl:1+k < s.length:=by rcases hdd with e | e <;> exact ky hd (by rw [e];decide)
  have hwe:IntKind.i64.wrap (1+(k:Int))=1+(k:Int):=IntWalk.i64_in _ ⟨by omega,by omega⟩;have hwe1:IntKind.i64.wrap (1+(k:Int)+1)=1+(k:Int)+1:=IntWalk.i64_in _ ⟨by omega,by omega⟩;have hget:∀ h,(⟨s.toArray⟩:ByteArray)[1+k]'h=d:=fun h=>by rw [← hd];exact (cO hl).symm
  have et:(1+(k:Int)).toNat=1+k:=by omega
  have hei:1+(k:Int) < (s.length:Int):=by omega
  have he0:(0:Int)≤1+(k:Int):=by omega
  rcases hdd with hd46 | hd47
  ·have e46:(((d.toNat:Nat):Int) == 46)=true:=(av d 46).trans (by simp [hd46])
   clear hd46;rcases hc with ⟨ht0,hv9⟩ | ⟨htp,hv9⟩
   ·replace hv9:=hv9.symm
    subst hv9;subst ht0;go_in;go_wp2_with fail;(with_reducible refine (aV _ (s) true hM).mono ?_);rintro e w1 ⟨rfl,q1⟩;have bw1:=(aa w).trans (q1.mono (aa w).size);have lw1:=q1.size;clear q1;go_wp2_with fail;(with_reducible refine (aw _ (s) (1) (1) (by omega) (by omega) hs ((k:Int)) (by have h9:=hk;omega)).mono ?_);rintro e w2 ⟨rfl,q2⟩;have bw2:=bw1.trans (q2.mono bw1.size);have lw2:=q2.size;clear q2 bw1;go_wp2_with fail;(with_reducible refine (aw _ (s) ((1+(k:Int)+1)) (1+k+1) (by omega) (by omega) hs (0) (by have h9:=ht;omega)).mono ?_);rintro e w3 ⟨rfl,q3⟩;have bw3:=bw2.trans (q3.mono bw2.size);have lw3:=q3.size;clear q3 bw2;go_wp2;go_ret;exact cJ (by omega) bw3
   replace hv9:=hv9.symm;subst hv9;have ht9:((0:Int) < (t:Int))=True:=by simp;omega
   have htl:1+k+1+t≤s.length:=by have:=cD ht htp;omega
   have hwt:IntKind.i64.wrap (1+(t:Int))=1+(t:Int):=IntWalk.i64_in _ ⟨by omega,by omega⟩;have hwt2:IntKind.i64.wrap (1+(k:Int)+(1+(t:Int)))=1+(k:Int)+(1+(t:Int)):=IntWalk.i64_in _ ⟨by omega,by omega⟩;go_in;go_wp2_with fail;(with_reducible refine (aV _ (s) true hM).mono ?_);rintro e w1 ⟨rfl,q1⟩;have bw1:=(aa w).trans (q1.mono (aa w).size);have lw1:=q1.size;clear q1;go_wp2_with fail;(with_reducible refine (aw _ (s) (1) (1) (by omega) (by omega) hs ((k:Int)) (by have h9:=hk;omega)).mono ?_);rintro e w2 ⟨rfl,q2⟩;have bw2:=bw1.trans (q2.mono bw1.size);have lw2:=q2.size;clear q2 bw1;go_wp2_with fail;(with_reducible refine (aw _ (s) ((1+(k:Int)+1)) (1+k+1) (by omega) (by omega) hs ((t:Int)) (by have h9:=ht;omega)).mono ?_);rintro e w3 ⟨rfl,q3⟩;have bw3:=bw2.trans (q3.mono bw2.size);have lw3:=q3.size;clear q3 bw2;go_wp2;go_ret;exact cJ (by omega) bw3
  have e46:(((d.toNat:Nat):Int) == 46)=false:=(av d 46).trans (by simp [hd47]);have e47:(((d.toNat:Nat):Int) == 47)=true:=(av d 47).trans (by simp [hd47]);clear hd47;rcases hc with ⟨ht0,hv9⟩ | ⟨htp,hv9⟩
  ·replace hv9:=hv9.symm
   subst hv9;subst ht0;go_in;go_wp2_with fail;(with_reducible refine (aV _ (s) true hM).mono ?_);rintro e w1 ⟨rfl,q1⟩;have bw1:=(aa w).trans (q1.mono (aa w).size);have lw1:=q1.size;clear q1;go_wp2_with fail;(with_reducible refine (aw _ (s) (1) (1) (by omega) (by omega) hs ((k:Int)) (by have h9:=hk;omega)).mono ?_);rintro e w2 ⟨rfl,q2⟩;have bw2:=bw1.trans (q2.mono bw1.size);have lw2:=q2.size;clear q2 bw1;go_wp2_with fail;(with_reducible refine (aw _ (s) ((1+(k:Int)+1)) (1+k+1) (by omega) (by omega) hs (0) (by have h9:=ht;omega)).mono ?_);rintro e w3 ⟨rfl,q3⟩;have bw3:=bw2.trans (q3.mono bw2.size);have lw3:=q3.size;clear q3 bw2;go_wp2;go_ret;exact cJ (by omega) bw3
  replace hv9:=hv9.symm;subst hv9;have ht9:((0:Int) < (t:Int))=True:=by simp;omega
  have htl:1+k+1+t≤s.length:=by have:=cD ht htp;omega
  have hwt:IntKind.i64.wrap (1+(t:Int))=1+(t:Int):=IntWalk.i64_in _ ⟨by omega,by omega⟩;have hwt2:IntKind.i64.wrap (1+(k:Int)+(1+(t:Int)))=1+(k:Int)+(1+(t:Int)):=IntWalk.i64_in _ ⟨by omega,by omega⟩;go_in;go_wp2_with fail;(with_reducible refine (aV _ (s) true hM).mono ?_);rintro e w1 ⟨rfl,q1⟩;have bw1:=(aa w).trans (q1.mono (aa w).size);have lw1:=q1.size;clear q1;go_wp2_with fail;(with_reducible refine (aw _ (s) (1) (1) (by omega) (by omega) hs ((k:Int)) (by have h9:=hk;omega)).mono ?_);rintro e w2 ⟨rfl,q2⟩;have bw2:=bw1.trans (q2.mono bw1.size);have lw2:=q2.size;clear q2 bw1;go_wp2_with fail;(with_reducible refine (aw _ (s) ((1+(k:Int)+1)) (1+k+1) (by omega) (by omega) hs ((t:Int)) (by have h9:=ht;omega)).mono ?_);rintro e w3 ⟨rfl,q3⟩;have bw3:=bw2.trans (q3.mono bw2.size);have lw3:=q3.size;clear q3 bw2;go_wp2;go_ret;exact cJ (by omega) bw3
 simp only [Nat.zero_add] at hk hc;have hM:bS s=false:=by rw [lx];simp [ham]
 clear ham;rcases hc with ⟨hk0,hv0⟩ | ⟨hkp,d,hd,hc⟩
 ·subst hv0
  subst hk0;go_in;go_wp2_with fail;(with_reducible refine (aV _ (s) false hM).mono ?_);rintro e w1 ⟨rfl,q1⟩;have bw1:=(aa w).trans (q1.mono (aa w).size);have lw1:=q1.size;clear q1;go_wp2_with fail;(with_reducible refine (aw _ (s) (0) (0) (by omega) (by omega) hs (0) (by have h9:=hk;omega)).mono ?_);rintro e w2 ⟨rfl,q2⟩;have bw2:=bw1.trans (q2.mono bw1.size);have lw2:=q2.size;clear q2 bw1;go_wp2;go_ret;exact cJ (by omega) bw2
 have hle:k≤s.length:=by have:=cD hk hkp;omega
 have hk9:((k:Int) == 0)=false:=by simp;omega
 have hk8:((k:Int)=0)=False:=by simp;omega
 rcases hc with ⟨hd1,hd2,hv9⟩ | ⟨hdd,t,ht,hc⟩
 ·have e46:(((d.toNat:Nat):Int) == 46)=false:=(av d 46).trans (by simp [hd1])
  have e47:(((d.toNat:Nat):Int) == 47)=false:=(av d 47).trans (by simp [hd2]);clear hd1 hd2;replace hv9:=hv9.symm;subst hv9;rcases Nat.lt_or_ge (k) s.length with hl | hl
  ·have hget:∀ h,(⟨s.toArray⟩:ByteArray)[k]'h=d:=fun h=>by rw [← hd];exact (cO hl).symm
   have et:((k:Int)).toNat=k:=by omega
   have hei:(k:Int) < (s.length:Int):=by omega
   have he0:(0:Int)≤(k:Int):=by omega
   go_in;go_wp2_with fail;(with_reducible refine (aV _ (s) false hM).mono ?_);rintro e w1 ⟨rfl,q1⟩;have bw1:=(aa w).trans (q1.mono (aa w).size);have lw1:=q1.size;clear q1;go_wp2_with fail;(with_reducible refine (aw _ (s) (0) (0) (by omega) (by omega) hs ((k:Int)) (by have h9:=hk;omega)).mono ?_);rintro e w2 ⟨rfl,q2⟩;have bw2:=bw1.trans (q2.mono bw1.size);have lw2:=q2.size;clear q2 bw1;go_wp2;go_ret;exact cJ (by omega) bw2
  have hei:((k:Int) < (s.length:Int))=False:=by simp;omega
  go_in;go_wp2_with fail;(with_reducible refine (aV _ (s) false hM).mono ?_);rintro e w1 ⟨rfl,q1⟩;have bw1:=(aa w).trans (q1.mono (aa w).size);have lw1:=q1.size;clear q1;go_wp2_with fail;(with_reducible refine (aw _ (s) (0) (0) (by omega) (by omega) hs ((k:Int)) (by have h9:=hk;omega)).mono ?_);rintro e w2 ⟨rfl,q2⟩;have bw2:=bw1.trans (q2.mono bw1.size);have lw2:=q2.size;clear q2 bw1;go_wp2;go_ret;exact cJ (by omega) bw2
 have hl:k < s.length:=by rcases hdd with e | e <;> exact ky hd (by rw [e];decide)
 have hwe1:IntKind.i64.wrap ((k:Int)+1)=(k:Int)+1:=IntWalk.i64_in _ ⟨by omega,by omega⟩;have hget:∀ h,(⟨s.toArray⟩:ByteArray)[k]'h=d:=fun h=>by rw [← hd];exact (cO hl).symm
 have et:((k:Int)).toNat=k:=by omega
 have hei:(k:Int) < (s.length:Int):=by omega
 have he0:(0:Int)≤(k:Int):=by omega
 rcases hdd with hd46 | hd47
 ·have e46:(((d.toNat:Nat):Int) == 46)=true:=(av d 46).trans (by simp [hd46])
  clear hd46;rcases hc with ⟨ht0,hv9⟩ | ⟨htp,hv9⟩
  ·replace hv9:=hv9.symm
   subst hv9;subst ht0;go_in;go_wp2_with fail;(with_reducible refine (aV _ (s) false hM).mono ?_);rintro e w1 ⟨rfl,q1⟩;have bw1:=(aa w).trans (q1.mono (aa w).size);have lw1:=q1.size;clear q1;go_wp2_with fail;(with_reducible refine (aw _ (s) (0) (0) (by omega) (by omega) hs ((k:Int)) (by have h9:=hk;omega)).mono ?_);rintro e w2 ⟨rfl,q2⟩;have bw2:=bw1.trans (q2.mono bw1.size);have lw2:=q2.size;clear q2 bw1;go_wp2_with fail;(with_reducible refine (aw _ (s) (((k:Int)+1)) (k+1) (by omega) (by omega) hs (0) (by have h9:=ht;omega)).mono ?_);rintro e w3 ⟨rfl,q3⟩;have bw3:=bw2.trans (q3.mono bw2.size);have lw3:=q3.size;clear q3 bw2;go_wp2;go_ret;exact cJ (by omega) bw3
  replace hv9:=hv9.symm;subst hv9;have ht9:((0:Int) < (t:Int))=True:=by simp;omega
  have htl:k+1+t≤s.length:=by have:=cD ht htp;omega
  have hwt:IntKind.i64.wrap (1+(t:Int))=1+(t:Int):=IntWalk.i64_in _ ⟨by omega,by omega⟩;have hwt2:IntKind.i64.wrap ((k:Int)+(1+(t:Int)))=(k:Int)+(1+(t:Int)):=IntWalk.i64_in _ ⟨by omega,by omega⟩;go_in;go_wp2_with fail;(with_reducible refine (aV _ (s) false hM).mono ?_);rintro e w1 ⟨rfl,q1⟩;have bw1:=(aa w).trans (q1.mono (aa w).size);have lw1:=q1.size;clear q1;go_wp2_with fail;(with_reducible refine (aw _ (s) (0) (0) (by omega) (by omega) hs ((k:Int)) (by have h9:=hk;omega)).mono ?_);rintro e w2 ⟨rfl,q2⟩;have bw2:=bw1.trans (q2.mono bw1.size);have lw2:=q2.size;clear q2 bw1;go_wp2_with fail;(with_reducible refine (aw _ (s) (((k:Int)+1)) (k+1) (by omega) (by omega) hs ((t:Int)) (by have h9:=ht;omega)).mono ?_);rintro e w3 ⟨rfl,q3⟩;have bw3:=bw2.trans (q3.mono bw2.size);have lw3:=q3.size;clear q3 bw2;go_wp2;go_ret;exact cJ (by omega) bw3
 have e46:(((d.toNat:Nat):Int) == 46)=false:=(av d 46).trans (by simp [hd47]);have e47:(((d.toNat:Nat):Int) == 47)=true:=(av d 47).trans (by simp [hd47]);clear hd47;rcases hc with ⟨ht0,hv9⟩ | ⟨htp,hv9⟩
 ·replace hv9:=hv9.symm
  subst hv9;subst ht0;go_in;go_wp2_with fail;(with_reducible refine (aV _ (s) false hM).mono ?_);rintro e w1 ⟨rfl,q1⟩;have bw1:=(aa w).trans (q1.mono (aa w).size);have lw1:=q1.size;clear q1;go_wp2_with fail;(with_reducible refine (aw _ (s) (0) (0) (by omega) (by omega) hs ((k:Int)) (by have h9:=hk;omega)).mono ?_);rintro e w2 ⟨rfl,q2⟩;have bw2:=bw1.trans (q2.mono bw1.size);have lw2:=q2.size;clear q2 bw1;go_wp2_with fail;(with_reducible refine (aw _ (s) (((k:Int)+1)) (k+1) (by omega) (by omega) hs (0) (by have h9:=ht;omega)).mono ?_);rintro e w3 ⟨rfl,q3⟩;have bw3:=bw2.trans (q3.mono bw2.size);have lw3:=q3.size;clear q3 bw2;go_wp2;go_ret;exact cJ (by omega) bw3
 replace hv9:=hv9.symm;subst hv9;have ht9:((0:Int) < (t:Int))=True:=by simp;omega
 have htl:k+1+t≤s.length:=by have:=cD ht htp;omega
 have hwt:IntKind.i64.wrap (1+(t:Int))=1+(t:Int):=IntWalk.i64_in _ ⟨by omega,by omega⟩;have hwt2:IntKind.i64.wrap ((k:Int)+(1+(t:Int)))=(k:Int)+(1+(t:Int)):=IntWalk.i64_in _ ⟨by omega,by omega⟩;go_in;go_wp2_with fail;(with_reducible refine (aV _ (s) false hM).mono ?_);rintro e w1 ⟨rfl,q1⟩;have bw1:=(aa w).trans (q1.mono (aa w).size);have lw1:=q1.size;clear q1;go_wp2_with fail;(with_reducible refine (aw _ (s) (0) (0) (by omega) (by omega) hs ((k:Int)) (by have h9:=hk;omega)).mono ?_);rintro e w2 ⟨rfl,q2⟩;have bw2:=bw1.trans (q2.mono bw1.size);have lw2:=q2.size;clear q2 bw1;go_wp2_with fail;(with_reducible refine (aw _ (s) (((k:Int)+1)) (k+1) (by omega) (by omega) hs ((t:Int)) (by have h9:=ht;omega)).mono ?_);rintro e w3 ⟨rfl,q3⟩;have bw3:=bw2.trans (q3.mono bw2.size);have lw3:=q3.size;clear q3 bw2;go_wp2;go_ret;exact cJ (by omega) bw3
theorem oQ (s:List UInt8) (i:Nat):mF (s.drop i)=(bT (atB s i) || atB s i == 95 || atB s i == 46 || atB s i == 47):=by
 rcases Nat.lt_or_ge i s.length with h | h
 ·rw [aR h];rfl
 rw [List.drop_eq_nil_of_le h,dS h];rfl
def ur:nA→Value
  | .ok k n=>.tuple #[.int .i64 (k:Nat),.int .i64 (n:Nat),.nilIface]
  | .err x=>.tuple #[.int .i64 0,.int .i64 0,.iface 49 (.int .i64 (x:Nat))]
theorem ly {s:List UInt8}{i:Nat}{f:nA}(hi:i < s.length) (hf:bc (s.drop i)=f):∃ c,atB s i=c∧∃ n,bq (s.drop i)=n∧∃ m,bp (s.drop i)=m∧n≤s.length - i∧m≤s.length - i ∧
 ((df c=true∧n=0∧m=0∧f=.ok 2 1)∨(df c=false∧24 < n∧f=.err 5)∨(df c=false∧0 < n∧n≤24∧f=.ok 0 n) ∨
  (df c=false∧n=0∧m=0∧f=.err 2)∨(df c=false∧n=0∧60 < m∧f=.err 4) ∨
  (df c=false∧n=0∧0 < m∧m≤60∧∃ d,atB s (i+m)=d∧((bT d=true∧f=.err 2)∨(bT d=false∧d=95∧f=.err 2)∨(bT d=false∧d=46∧f=.err 2)∨(bT d=false∧d=47∧f=.err 2) ∨
   (bT d=false∧d≠95∧d≠46∧d≠47∧f=.ok 1 m)))):=by
 have h1:=ir (s.drop i);have h2:=kt (s.drop i);rw [List.length_drop] at h1 h2;refine ⟨_,rfl,_,rfl,_,rfl,h1,h2,?_⟩;subst hf;by_cases hs:df (atB s i)=true
 ·left
  have e0:bq (s.drop i)=0:=lu (by
   rw [jL] at hs
   rw [jK];simp at hs ⊢;omega)
  have e1:bp (s.drop i)=0:=by
   obtain ⟨m,k,hm,hk,hc⟩:=gz (s:=s) (i:=i) rfl;rw [jL] at hs;rcases hm with ⟨_,h⟩ | ⟨rfl,h⟩
   ·rw [h] at hs;exact absurd hs (by decide)
   rcases hc with ⟨_,h⟩ | ⟨h,_⟩
   ·exact h
   exfalso;rw [Nat.add_zero,aR hi] at hk;unfold bR at hk;rw [List.takeWhile_cons,if_neg (by rw [ls];simp at hs ⊢;omega)] at hk;simp at hk;omega
  refine ⟨hs,e0,e1,?_⟩;rw [aR hi,bc,if_pos hs]
 have hs:df (atB s i)=false:=by simpa using hs
 right
 have e:bc (s.drop i)=(if 0 < bq (s.drop i) then (if 24 < bq (s.drop i) then .err 5 else .ok 0 (bq (s.drop i)))
  else if bp (s.drop i)=0 then .err 2 else if 60 < bp (s.drop i) then .err 4 else if mF ((s.drop i).drop (bp (s.drop i))) then .err 2 else .ok 1 (bp (s.drop i))):=by
  conv=>lhs;rw [aR hi]
  rw [bc,if_neg (by rw [hs];decide),← aR hi]
 rw [e,List.drop_drop];by_cases a:0 < bq (s.drop i)
 ·rw [if_pos a]
  by_cases b:24 < bq (s.drop i)
  ·rw [if_pos b];exact .inl ⟨hs,b,rfl⟩
  rw [if_neg b];exact .inr (.inl ⟨hs,a,by omega,rfl⟩)
 rw [if_neg a];have a:bq (s.drop i)=0:=by omega
 right;right;by_cases b:bp (s.drop i)=0
 ·rw [if_pos b];exact .inl ⟨hs,a,b,rfl⟩
 rw [if_neg b];by_cases b2:60 < bp (s.drop i)
 ·rw [if_pos b2];exact .inr (.inl ⟨hs,a,b2,rfl⟩)
 rw [if_neg b2];refine .inr (.inr ⟨hs,a,by omega,by omega,_,rfl,?_⟩);rw [oQ];generalize atB s (i+bp (s.drop i))=d;cases hl:bT d
 ·by_cases c1:d=95
  ·subst c1;exact .inr (.inl ⟨rfl,rfl,rfl⟩)
  by_cases c2:d=46
  ·subst c2;exact .inr (.inr (.inl ⟨rfl,rfl,rfl⟩))
  by_cases c3:d=47
  ·subst c3;exact .inr (.inr (.inr (.inl ⟨rfl,rfl,rfl⟩)))
  refine .inr (.inr (.inr (.inr ⟨rfl,c1,c2,c3,?_⟩)));rw [beq_eq_false_iff_ne.2 c1,beq_eq_false_iff_ne.2 c2,beq_eq_false_iff_ne.2 c3];rfl
 exact .inl ⟨rfl,rfl⟩
theorem ez (w:World) (c:UInt8) (v:Bool) (hv:df c=v):Calls Tryz.prog 107 #[.string ⟨#[123,125,59,46]⟩,.int .u8 (c.toNat:Nat)] w (fun e w'=>∃ x:Int,decide (0≤x)=v∧e=.returned (.int .i64 x)∧Below w.heap.size w w'):=by
 refine (Tryz.strings_IndexByte ⟨#[123,125,59,46]⟩ (c.toNat:Nat) w).mono fun e w' ⟨he,hw⟩=>⟨_,?_,he,hw ▸ aa _⟩
 have ec:((c.toNat:Nat):Int).toNat.toUInt8=c:=by simp
 rw [ec,← hv];unfold df;show decide (0≤Lib.indexByte [123,125,59,46] c)=_;unfold Lib.indexByte Lib.indexByte Lib.indexByte Lib.indexByte Lib.indexByte;by_cases h1:c=123
 ·subst h1;rfl
 by_cases h2:c=125
 ·subst h2;rfl
 by_cases h3:c=59
 ·subst h3;rfl
 by_cases h4:c=46
 ·subst h4;rfl
 have g:∀ {a:UInt8},c≠a→(a == c)=false:=fun h=>beq_eq_false_iff_ne.2 (fun e=>h e.symm)
 rw [beq_eq_false_iff_ne.2 h1,beq_eq_false_iff_ne.2 h2,beq_eq_false_iff_ne.2 h3,beq_eq_false_iff_ne.2 h4];simp [g h1,g h2,g h3,g h4]
theorem nD (w:World) (s:List UInt8) (hp:0 < s.length) (hs:s.length < 4611686018427387904) (f:nA) (hf:bc s=f):Calls Tryz.prog 69 #[af s] w (aE w (ur f)):=by
 have hszs:=ai s;obtain ⟨c,hc0,n,hwn,m,hnm,hnl,hml,hcs⟩:=ly (s:=s) (i:=0) hp hf;clear hf;have hwn:bq s=n:=hwn;have hnm:bp s=m:=hnm;have hget0:∀ h,(⟨s.toArray⟩:ByteArray)[0]'h=c:=fun h=>by rw [← hc0];exact (cO hp).symm
 have hp1:(0:Int) < (s.length:Int):=by omega
 clear hc0;rcases hcs with ⟨hsg,hn0,hm0,rfl⟩ | ⟨hsg,hn1,rfl⟩ | ⟨hsg,hn1,hn2,rfl⟩ | ⟨hsg,hn0,hm0,rfl⟩ | ⟨hsg,hn0,hm1,rfl⟩ | ⟨hsg,hn0,hm1,hm2,d,hd,hc⟩
 ·go_in
  go_wp2_with fail;(with_reducible refine (ez _ c _ hsg).mono ?_);rintro e w1 ⟨x,hx,rfl,hb1⟩;have hx9:(0≤x)=True:=by simpa using hx
  clear hx;have bw1:=hb1;go_wp2_with fail;refine bodyPost_ret (v:=.tuple #[.int .i64 2,.int .i64 1,.nilIface]) (by simp [results,Tryz.results69,go_sem, *] <;> trivial) rfl ?_;exact ⟨rfl,bw1⟩
 ·have hgt:((0:Int) < (n:Int))=True:=by simp;omega
  have hgt2:((24:Int) < (n:Int))=True:=by simp;omega
  go_in;go_wp2_with fail;(with_reducible refine (ez _ c _ hsg).mono ?_);rintro e w1 ⟨x,hx,rfl,hb1⟩;have hx9:(0≤x)=False:=by simpa using hx
  clear hx;have bw1:=hb1;go_wp2_with fail;(with_reducible refine (ci _ (s) hs (n) hwn).mono ?_);rintro e w2 ⟨rfl,q2⟩;have bw2:=bw1.trans (q2.mono bw1.size);have lw2:=q2.size;clear q2;go_wp2_with fail;refine bodyPost_ret (v:=.tuple #[.int .i64 0,.int .i64 0,.iface 49 (.int .i64 5)]) (by simp [results,Tryz.results69,go_sem, *] <;> trivial) rfl ?_;exact ⟨rfl,bw2⟩
 ·have hgt:((0:Int) < (n:Int))=True:=by simp;omega
  have hgt2:((24:Int) < (n:Int))=False:=by simp;omega
  go_in;go_wp2_with fail;(with_reducible refine (ez _ c _ hsg).mono ?_);rintro e w1 ⟨x,hx,rfl,hb1⟩;have hx9:(0≤x)=False:=by simpa using hx
  clear hx;have bw1:=hb1;go_wp2_with fail;(with_reducible refine (ci _ (s) hs (n) hwn).mono ?_);rintro e w2 ⟨rfl,q2⟩;have bw2:=bw1.trans (q2.mono bw1.size);have lw2:=q2.size;clear q2;go_wp2_with fail;refine bodyPost_ret (v:=.tuple #[.int .i64 0,.int .i64 n,.nilIface]) (by simp [results,Tryz.results69,go_sem, *] <;> trivial) rfl ?_;exact ⟨rfl,bw2⟩
 ·subst hn0
  subst hm0;go_in;go_wp2_with fail;(with_reducible refine (ez _ c _ hsg).mono ?_);rintro e w1 ⟨x,hx,rfl,hb1⟩;have hx9:(0≤x)=False:=by simpa using hx
  clear hx;have bw1:=hb1;go_wp2_with fail;(with_reducible refine (ci _ (s) hs (0) hwn).mono ?_);rintro e w2 ⟨rfl,q2⟩;have bw2:=bw1.trans (q2.mono bw1.size);have lw2:=q2.size;clear q2;go_wp2_with fail;(with_reducible refine (bO _ (s) hs (0) hnm).mono ?_);rintro e w3 ⟨rfl,q3⟩;have bw3:=bw2.trans (q3.mono bw2.size);have lw3:=q3.size;clear q3 bw2;go_wp2_with fail;refine bodyPost_ret (v:=.tuple #[.int .i64 0,.int .i64 0,.iface 49 (.int .i64 2)]) (by simp [results,Tryz.results69,go_sem, *] <;> trivial) rfl ?_;exact ⟨rfl,bw3⟩
 ·subst hn0
  have hm9:((m:Int) == 0)=false:=by simp;omega
  have hg2:((60:Int) < (m:Int))=True:=by simp;omega
  go_in;go_wp2_with fail;(with_reducible refine (ez _ c _ hsg).mono ?_);rintro e w1 ⟨x,hx,rfl,hb1⟩;have hx9:(0≤x)=False:=by simpa using hx
  clear hx;have bw1:=hb1;go_wp2_with fail;(with_reducible refine (ci _ (s) hs (0) hwn).mono ?_);rintro e w2 ⟨rfl,q2⟩;have bw2:=bw1.trans (q2.mono bw1.size);have lw2:=q2.size;clear q2;go_wp2_with fail;(with_reducible refine (bO _ (s) hs (m) hnm).mono ?_);rintro e w3 ⟨rfl,q3⟩;have bw3:=bw2.trans (q3.mono bw2.size);have lw3:=q3.size;clear q3 bw2;go_wp2_with fail;refine bodyPost_ret (v:=.tuple #[.int .i64 0,.int .i64 0,.iface 49 (.int .i64 4)]) (by simp [results,Tryz.results69,go_sem, *] <;> trivial) rfl ?_;exact ⟨rfl,bw3⟩
 subst hn0;have hm9:((m:Int) == 0)=false:=by simp;omega
 have hg2:((60:Int) < (m:Int))=False:=by simp;omega
 rw [Nat.zero_add] at hd;rcases Nat.lt_or_ge m s.length with hl9 | hl9
 ·have hget:∀ h,(⟨s.toArray⟩:ByteArray)[m]'h=d:=fun h=>by rw [← hd];exact (cO hl9).symm
  have hml1:((m:Int) < (s.length:Int))=True:=by simp;omega
  have hml2:m < s.length:=hl9;clear hd;rcases hc with ⟨hl,rfl⟩ | ⟨hl,h95,rfl⟩ | ⟨hl,h46,rfl⟩ | ⟨hl,h47,rfl⟩ | ⟨hl,h95,h46,h47,rfl⟩
  ·skip
   go_in;go_wp2_with fail;(with_reducible refine (ez _ c _ hsg).mono ?_);rintro e w1 ⟨x,hx,rfl,hb1⟩;have hx9:(0≤x)=False:=by simpa using hx
   clear hx;have bw1:=hb1;go_wp2_with fail;(with_reducible refine (ci _ (s) hs (0) hwn).mono ?_);rintro e w2 ⟨rfl,q2⟩;have bw2:=bw1.trans (q2.mono bw1.size);have lw2:=q2.size;clear q2;go_wp2_with fail;(with_reducible refine (bO _ (s) hs (m) hnm).mono ?_);rintro e w3 ⟨rfl,q3⟩;have bw3:=bw2.trans (q3.mono bw2.size);have lw3:=q3.size;clear q3 bw2;go_wp2_with fail;(with_reducible refine (bN _ d true hl).mono ?_);rintro e w4 ⟨rfl,q4⟩;have bw4:=bw3.trans (q4.mono bw3.size);have lw4:=q4.size;clear q4 bw3;go_wp2_with fail;refine bodyPost_ret (v:=.tuple #[.int .i64 0,.int .i64 0,.iface 49 (.int .i64 2)]) (by simp [results,Tryz.results69,go_sem, *] <;> trivial) rfl ?_;exact ⟨rfl,bw4⟩
  ·have e95:(((d.toNat:Nat):Int) == 95)=true:=(av d 95).trans (by simp [h95])
   clear h95;go_in;go_wp2_with fail;(with_reducible refine (ez _ c _ hsg).mono ?_);rintro e w1 ⟨x,hx,rfl,hb1⟩;have hx9:(0≤x)=False:=by simpa using hx
   clear hx;have bw1:=hb1;go_wp2_with fail;(with_reducible refine (ci _ (s) hs (0) hwn).mono ?_);rintro e w2 ⟨rfl,q2⟩;have bw2:=bw1.trans (q2.mono bw1.size);have lw2:=q2.size;clear q2;go_wp2_with fail;(with_reducible refine (bO _ (s) hs (m) hnm).mono ?_);rintro e w3 ⟨rfl,q3⟩;have bw3:=bw2.trans (q3.mono bw2.size);have lw3:=q3.size;clear q3 bw2;go_wp2_with fail;(with_reducible refine (bN _ d false hl).mono ?_);rintro e w4 ⟨rfl,q4⟩;have bw4:=bw3.trans (q4.mono bw3.size);have lw4:=q4.size;clear q4 bw3;go_wp2_with fail;refine bodyPost_ret (v:=.tuple #[.int .i64 0,.int .i64 0,.iface 49 (.int .i64 2)]) (by simp [results,Tryz.results69,go_sem, *] <;> trivial) rfl ?_;exact ⟨rfl,bw4⟩
  ·have e95:(((d.toNat:Nat):Int) == 95)=false:=(av d 95).trans (by simp [h46])
   have e46:(((d.toNat:Nat):Int) == 46)=true:=(av d 46).trans (by simp [h46]);clear h46;go_in;go_wp2_with fail;(with_reducible refine (ez _ c _ hsg).mono ?_);rintro e w1 ⟨x,hx,rfl,hb1⟩;have hx9:(0≤x)=False:=by simpa using hx
   clear hx;have bw1:=hb1;go_wp2_with fail;(with_reducible refine (ci _ (s) hs (0) hwn).mono ?_);rintro e w2 ⟨rfl,q2⟩;have bw2:=bw1.trans (q2.mono bw1.size);have lw2:=q2.size;clear q2;go_wp2_with fail;(with_reducible refine (bO _ (s) hs (m) hnm).mono ?_);rintro e w3 ⟨rfl,q3⟩;have bw3:=bw2.trans (q3.mono bw2.size);have lw3:=q3.size;clear q3 bw2;go_wp2_with fail;(with_reducible refine (bN _ d false hl).mono ?_);rintro e w4 ⟨rfl,q4⟩;have bw4:=bw3.trans (q4.mono bw3.size);have lw4:=q4.size;clear q4 bw3;go_wp2_with fail;refine bodyPost_ret (v:=.tuple #[.int .i64 0,.int .i64 0,.iface 49 (.int .i64 2)]) (by simp [results,Tryz.results69,go_sem, *] <;> trivial) rfl ?_;exact ⟨rfl,bw4⟩
  ·have e95:(((d.toNat:Nat):Int) == 95)=false:=(av d 95).trans (by simp [h47])
   have e46:(((d.toNat:Nat):Int) == 46)=false:=(av d 46).trans (by simp [h47]);have e47:(((d.toNat:Nat):Int) == 47)=true:=(av d 47).trans (by simp [h47]);clear h47;go_in;go_wp2_with fail;(with_reducible refine (ez _ c _ hsg).mono ?_);rintro e w1 ⟨x,hx,rfl,hb1⟩;have hx9:(0≤x)=False:=by simpa using hx
   clear hx;have bw1:=hb1;go_wp2_with fail;(with_reducible refine (ci _ (s) hs (0) hwn).mono ?_);rintro e w2 ⟨rfl,q2⟩;have bw2:=bw1.trans (q2.mono bw1.size);have lw2:=q2.size;clear q2;go_wp2_with fail;(with_reducible refine (bO _ (s) hs (m) hnm).mono ?_);rintro e w3 ⟨rfl,q3⟩;have bw3:=bw2.trans (q3.mono bw2.size);have lw3:=q3.size;clear q3 bw2;go_wp2_with fail;(with_reducible refine (bN _ d false hl).mono ?_);rintro e w4 ⟨rfl,q4⟩;have bw4:=bw3.trans (q4.mono bw3.size);have lw4:=q4.size;clear q4 bw3;go_wp2_with fail;refine bodyPost_ret (v:=.tuple #[.int .i64 0,.int .i64 0,.iface 49 (.int .i64 2)]) (by simp [results,Tryz.results69,go_sem, *] <;> trivial) rfl ?_;exact ⟨rfl,bw4⟩
  have e95:(((d.toNat:Nat):Int) == 95)=false:=(av d 95).trans (by simp [h95]);have e46:(((d.toNat:Nat):Int) == 46)=false:=(av d 46).trans (by simp [h46]);have e47:(((d.toNat:Nat):Int) == 47)=false:=(av d 47).trans (by simp [h47]);clear h95 h46 h47;go_in;go_wp2_with fail;(with_reducible refine (ez _ c _ hsg).mono ?_);rintro e w1 ⟨x,hx,rfl,hb1⟩;have hx9:(0≤x)=False:=by simpa using hx
  clear hx;have bw1:=hb1;go_wp2_with fail;(with_reducible refine (ci _ (s) hs (0) hwn).mono ?_);rintro e w2 ⟨rfl,q2⟩;have bw2:=bw1.trans (q2.mono bw1.size);have lw2:=q2.size;clear q2;go_wp2_with fail;(with_reducible refine (bO _ (s) hs (m) hnm).mono ?_);rintro e w3 ⟨rfl,q3⟩;have bw3:=bw2.trans (q3.mono bw2.size);have lw3:=q3.size;clear q3 bw2;go_wp2_with fail;(with_reducible refine (bN _ d false hl).mono ?_);rintro e w4 ⟨rfl,q4⟩;have bw4:=bw3.trans (q4.mono bw3.size);have lw4:=q4.size;clear q4 bw3;go_wp2_with fail;refine bodyPost_ret (v:=.tuple #[.int .i64 1,.int .i64 m,.nilIface]) (by simp [results,Tryz.results69,go_sem, *] <;> trivial) rfl ?_;exact ⟨rfl,bw4⟩
 have hml1:((m:Int) < (s.length:Int))=False:=by simp;omega
 have hd0:d=0:=by rw [← hd];exact dS hl9
 subst hd0;clear hd;rcases hc with ⟨hl,rfl⟩ | ⟨hl,h95,rfl⟩ | ⟨hl,h46,rfl⟩ | ⟨hl,h47,rfl⟩ | ⟨hl,h95,h46,h47,rfl⟩
 ·exact absurd hl (by decide)
 ·exact absurd h95 (by decide)
 ·exact absurd h46 (by decide)
 ·exact absurd h47 (by decide)
 clear h95 h46 h47 hl;go_in;go_wp2_with fail;(with_reducible refine (ez _ c _ hsg).mono ?_);rintro e w1 ⟨x,hx,rfl,hb1⟩;have hx9:(0≤x)=False:=by simpa using hx
 clear hx;have bw1:=hb1;go_wp2_with fail;(with_reducible refine (ci _ (s) hs (0) hwn).mono ?_);rintro e w2 ⟨rfl,q2⟩;have bw2:=bw1.trans (q2.mono bw1.size);have lw2:=q2.size;clear q2;go_wp2_with fail;(with_reducible refine (bO _ (s) hs (m) hnm).mono ?_);rintro e w3 ⟨rfl,q3⟩;have bw3:=bw2.trans (q3.mono bw2.size);have lw3:=q3.size;clear q3 bw2;go_wp2_with fail;refine bodyPost_ret (v:=.tuple #[.int .i64 1,.int .i64 m,.nilIface]) (by simp [results,Tryz.results69,go_sem, *] <;> trivial) rfl ?_;exact ⟨rfl,bw3⟩
end Go.Proofs.YtfilnhompchciaaGreatDoor
