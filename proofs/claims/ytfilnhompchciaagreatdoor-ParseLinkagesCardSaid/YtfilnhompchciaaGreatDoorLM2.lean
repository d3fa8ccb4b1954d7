/- Part LM2: lemmas and walks that the claim rests on. No claim is made here. -/
import Derived.Deep.DeepCutAuto
import Derived.Deep.RegionHeld3
import Derived.Deep.DrawnRows
import Derived.Test.YtfilnhompchciaaGreatDoorProg
import Derived.WalkKit
import Derived.WalkSpells
import Derived.WalkLawsBesides
import Derived.BigQuiet
import Derived.Deep.QuietTactic
import Derived.Deep.AppendLies
import Derived.Lib.Hide
import Derived.Laws.OwnMore
import Derived.Deep.RegionHeld
import Derived.Lib.ItoaNum
import Derived.Lib.ItoaMem
import Derived.Lib.Repeat
import Derived.Lib.Join
import Derived.Lib.Atoi
import Derived.Lib.SlTrimSet
import Derived.Test.YtfilnhompchciaaGreatDoorLM1
set_option linter.unusedVariables false
set_option maxHeartbeats 8000000
set_option maxRecDepth 100000
/- Integers and fractions as values: what the walks of the layers above lean on. -/
namespace Go.Proofs.YtfilnhompchciaaGreatDoor
open Go Go.RowKit Bn
attribute [local go_sem ↓] Go.wp_at_zero Go.wp_at_succ

def IZ (w:World) (b:Bool) (A:Option Addr) (n c:Nat) (z:Int) (k:Nat):Prop:=∃ l,Wd w A n c l∧WD.z ⟨b,l⟩=z∧n≤k
def IV (w:World) (b:Bool) (A:Option Addr) (n c:Nat) (z:Int) (k:Nat):Prop:=b=(wh z).neg∧Wd w A n c (wh z).mag∧n≤k
def QD (w:World) (b:Bool) (A:Option Addr) (n c:Nat) (A':Option Addr) (n' c':Nat) (a:RD) (k:Nat):Prop:=a.neg=b∧Wd w A n c a.num∧Wd w A' n' c' a.den∧n≤k∧n'≤k
def QZ (w:World) (b:Bool) (A:Option Addr) (n c:Nat) (A':Option Addr) (n' c':Nat) (q:Rat) (k:Nat):Prop:=∃ a,QD w b A n c A' n' c' a k∧a.q=q
def QV (w:World) (b:Bool) (A:Option Addr) (n c:Nat) (A':Option Addr) (n' c':Nat) (q:Rat) (k:Nat):Prop:=QD w b A n c A' n' c' (rd q) k
section
variable {w w':World}{b:Bool}{A A':Option Addr}{n c n' c' k j:Nat}{z:Int}{q:Rat}{a:RD}
theorem IV.iz (h:IV w b A n c z k):IZ w b A n c z k:=by
 obtain ⟨rfl,h1,h2⟩:=h;exact ⟨_,h1,Bh z,h2⟩
theorem IZ.belw (h:IZ w b A n c z k) (hb:Below w.heap.size w w'):IZ w' b A n c z k:=by
 obtain ⟨l,h1,h2,h3⟩:=h;exact ⟨l,h1.belw hb,h2,h3⟩
theorem IV.belw (h:IV w b A n c z k) (hb:Below w.heap.size w w'):IV w' b A n c z k:=⟨h.1,h.2.1.belw hb,h.2.2⟩
theorem IZ.keep (h:IZ w b A n c z k) (hb:Kp w w'):IZ w' b A n c z k:=by
 obtain ⟨l,h1,h2,h3⟩:=h;exact ⟨l,h1.keep hb,h2,h3⟩
theorem IV.keep (h:IV w b A n c z k) (hb:Kp w w'):IV w' b A n c z k:=⟨h.1,h.2.1.keep hb,h.2.2⟩
theorem IZ.mono (h:IZ w b A n c z k) (hk:k≤j):IZ w b A n c z j:=by
 obtain ⟨l,h1,h2,h3⟩:=h;exact ⟨l,h1,h2,Nat.le_trans h3 hk⟩
theorem IV.mono (h:IV w b A n c z k) (hk:k≤j):IV w b A n c z j:=⟨h.1,h.2.1,Nat.le_trans h.2.2 hk⟩
theorem QD.belw (h:QD w b A n c A' n' c' a k) (hb:Below w.heap.size w w'):QD w' b A n c A' n' c' a k:=⟨h.1,h.2.1.belw hb,h.2.2.1.belw hb,h.2.2.2⟩
theorem QD.keep (h:QD w b A n c A' n' c' a k) (hb:Kp w w'):QD w' b A n c A' n' c' a k:=⟨h.1,h.2.1.keep hb,h.2.2.1.keep hb,h.2.2.2⟩
theorem QD.mono (h:QD w b A n c A' n' c' a k) (hk:k≤j):QD w b A n c A' n' c' a j:=⟨h.1,h.2.1,h.2.2.1,Nat.le_trans h.2.2.2.1 hk,Nat.le_trans h.2.2.2.2 hk⟩
theorem QD.qz (h:QD w b A n c A' n' c' a k):QZ w b A n c A' n' c' a.q k:=⟨a,h,rfl⟩
theorem QZ.belw (h:QZ w b A n c A' n' c' q k) (hb:Below w.heap.size w w'):QZ w' b A n c A' n' c' q k:=by
 obtain ⟨a,h1,h2⟩:=h;exact ⟨a,h1.belw hb,h2⟩
theorem QZ.keep (h:QZ w b A n c A' n' c' q k) (hb:Kp w w'):QZ w' b A n c A' n' c' q k:=by
 obtain ⟨a,h1,h2⟩:=h;exact ⟨a,h1.keep hb,h2⟩
theorem QZ.mono (h:QZ w b A n c A' n' c' q k) (hk:k≤j):QZ w b A n c A' n' c' q j:=by
 obtain ⟨a,h1,h2⟩:=h;exact ⟨a,h1.mono hk,h2⟩
theorem QV.qz (h:QV w b A n c A' n' c' q k):QZ w b A n c A' n' c' q k:=⟨_,h,yR q⟩
theorem QV.belw (h:QV w b A n c A' n' c' q k) (hb:Below w.heap.size w w'):QV w' b A n c A' n' c' q k:=QD.belw h hb
theorem QV.keep (h:QV w b A n c A' n' c' q k) (hb:Kp w w'):QV w' b A n c A' n' c' q k:=QD.keep h hb
theorem QV.mono (h:QV w b A n c A' n' c' q k) (hk:k≤j):QV w b A n c A' n' c' q j:=QD.mono h hk
theorem WD.z_lt {l:List Nat}(h:Wd w A n c l) (hk:n≤k):(WD.z ⟨b,l⟩).natAbs < 4294967296 ^ k:=by
 have h1:=h.vlt hk;have h2:=gI k;unfold WD.z;split
 ·simp only;split <;> omega
 simpa using h2
theorem IZ.lt (h:IZ w b A n c z k):z.natAbs < 4294967296 ^ k:=by
 obtain ⟨l,h1,rfl,h3⟩:=h;exact WD.z_lt h1 h3
theorem QD.sz (h:QD w b A n c A' n' c' a k) (hk:0 < k):Sz a.q k:=by
 have e1:=RD.q_num h.2.1.1 h.2.2.1.1;have e2:=RD.q_den h.2.1.1 h.2.2.1.1;have h1:=h.2.1.vlt h.2.2.2.1;have h2:=h.2.2.1.vlt h.2.2.2.2;have h3:1 < 4294967296 ^ k:=Nat.one_lt_pow (by omega) (by omega);unfold Sz;rw [e1,e2];refine ⟨?_,?_⟩
 ·unfold RD.n
  split
  ·split <;> omega
  simp;omega
 unfold RD.d;split <;> omega
theorem QZ.sz (h:QZ w b A n c A' n' c' q k) (hk:0 < k):Sz q k:=by
 obtain ⟨a,h1,rfl⟩:=h;exact h1.sz hk
theorem QV.mk_ (h1:Wd w A n c (rd q).num) (h2:Wd w A' n' c' (rd q).den) (hb:(rd q).neg=b) (hs:Sz q k):QV w b A n c A' n' c' q k:=by
 refine ⟨hb,h1,h2,?_,?_⟩
 ·rw [h1.2.1];exact aA hs.1
 rw [h2.2.1];unfold rd;simp only;split
 ·simp
 exact aA hs.2
theorem IV.mk_ (h:Wd w A n c (wh z).mag) (hb:b=(wh z).neg) (hs:z.natAbs < 4294967296 ^ k):IV w b A n c z k :=
 ⟨hb,h,by rw [h.2.1];exact aA hs⟩
end
def jc (w:World) (z:Int) (k:Nat) (e:Ending) (w':World):Prop:=∃ b A n c,e=.returned (.agg #[.bool b,.slice A n c])∧IV w' b A n c z k∧Below w.heap.size w w'
def ph (w:World) (q:Rat) (k:Nat) (e:Ending) (w':World):Prop:=∃ b A n c A' n' c',e=.returned (.agg #[.bool b,.slice A n c,.slice A' n' c'])∧QV w' b A n c A' n' c' q k∧Below w.heap.size w w'
def mU (w:World) (z z':Int) (k:Nat) (e:Ending) (w':World):Prop:=∃ b A n c b' A' n' c',e=.returned (.tuple #[.agg #[.bool b,.slice A n c],.agg #[.bool b',.slice A' n' c']])∧IV w' b A n c z k∧IV w' b' A' n' c' z' k∧Below w.heap.size w w'
def yq (w:World) (v:Value) (z z':Int) (k:Nat) (e:Ending) (w':World):Prop:=∃ b A n c b' A' n' c',e=.returned (.tuple #[.agg #[.bool b,.slice A n c],.agg #[.bool b',.slice A' n' c'],v])∧IV w' b A n c z k∧IV w' b' A' n' c' z' k∧Below w.heap.size w w'
def dZ (w:World) (v:Value) (q:Rat) (k:Nat) (e:Ending) (w':World):Prop:=∃ b A n c A' n' c',e=.returned (.tuple #[.agg #[.bool b,.slice A n c,.slice A' n' c'],v])∧QV w' b A n c A' n' c' q k∧Below w.heap.size w w'
theorem qD {a b K:Nat}(ha:a < K) (hb:b < K):Nat.gcd a b < K:=by
 rcases Nat.eq_zero_or_pos a with rfl | h
 ·simpa using hb
 exact Nat.lt_of_le_of_lt (Nat.gcd_le_left _ h) ha
theorem iR.i {w w':World}{z:Int}{k:Nat}{e:Ending}(h:iR w (wh z) e w') (hs:z.natAbs < 4294967296 ^ k):jc w z k e w':=by
 obtain ⟨A,n,c,rfl,h1,h2⟩:=h;exact ⟨_,A,n,c,rfl,IV.mk_ h1 rfl hs,h2⟩
section
variable (w:World) (b A n c z k) (h:IZ w b A n c z k) (b' A' n' c' z' k') (h':IZ w b' A' n' c' z' k')
include h
theorem rF (hk:k≤1000000000):Calls Tryz.prog 190 #[.agg #[.bool b,.slice A n c]] w (jc w (-z) k):=by
 have hz:=h.lt;obtain ⟨l,h1,rfl,h3⟩:=h;exact (Ah w b A n c l h1 (by omega)).mono fun _ _ r=>r.i (by omega)
theorem zr (hk:k≤1000000000):Calls Tryz.prog 192 #[.agg #[.bool b,.slice A n c]] w (av w (.int .i64 z.sign)):=by
 obtain ⟨l,h1,rfl,h3⟩:=h;exact uw w b A n c l h1 (by omega)
include h'
theorem yr (hk:k+k'≤1000000000):Calls Tryz.prog 199 #[.agg #[.bool b,.slice A n c],.agg #[.bool b',.slice A' n' c']] w (jc w (z * z') (k+k')):=by
 have hz:=h.lt;have hz':=h'.lt;obtain ⟨l,h1,rfl,h3⟩:=h;obtain ⟨l',h1',rfl,h3'⟩:=h';exact (Ai w b A n c l h1 (by omega) b' A' n' c' l' h1' (by omega)).mono fun _ _ r=>r.i (bt hz hz')
theorem yt (hk:k+k'≤1000000000):Calls Tryz.prog 152 #[.agg #[.bool b,.slice A n c],.agg #[.bool b',.slice A' n' c']] w (av w (.int .i64 (fN z z'))):=by
 obtain ⟨l,h1,rfl,h3⟩:=h;obtain ⟨l',h1',rfl,h3'⟩:=h';exact Al w b A n c l h1 (by omega) b' A' n' c' l' h1' (by omega)
theorem yu (hk:k+k'≤1000000000):Calls Tryz.prog 153 #[.agg #[.bool b,.slice A n c],.agg #[.bool b',.slice A' n' c']] w (jc w (Nat.gcd z.natAbs z'.natAbs:Nat) (k+k')):=by
 have hz:=h.mono (Nat.le_add_right k k') |>.lt
 have hz':=h'.mono (Nat.le_add_left k' k) |>.lt
 obtain ⟨l,h1,rfl,h3⟩:=h;obtain ⟨l',h1',rfl,h3'⟩:=h';exact (Au w b A n c l h1 (by omega) b' A' n' c' l' h1' (by omega)).mono fun _ _ r=>r.i (by simpa using qD hz hz')
theorem yv (hk:k+k'≤1000000000) (h0:z'≠0):Calls Tryz.prog 251 #[.agg #[.bool b,.slice A n c],.agg #[.bool b',.slice A' n' c']] w (yq w .nilIface (z / z') (z % z') (k+k')):=by
 have hz:=h.mono (Nat.le_add_right k k') |>.lt
 have hz':=h'.mono (Nat.le_add_left k' k) |>.lt
 obtain ⟨l,h1,rfl,h3⟩:=h;obtain ⟨l',h1',rfl,h3'⟩:=h';refine (Aw w b A n c l h1 (by omega) b' A' n' c' l' h1' (by omega) h0).mono fun _ _ r=>?_
 obtain ⟨A1,n1,c1,A2,n2,c2,rfl,r1,r2,r3⟩:=r;refine ⟨_,A1,n1,c1,_,A2,n2,c2,rfl,IV.mk_ r1 rfl ?_,IV.mk_ r2 rfl ?_,r3⟩
 ·exact Nat.lt_of_le_of_lt (Int.natAbs_ediv_le_natAbs _ _) hz
 have e1:=Int.emod_nonneg (WD.z ⟨b,l⟩) h0;have e2:=Int.emod_lt (WD.z ⟨b,l⟩) h0;omega
end
theorem Bp (w:World) (i:Int) (k:Nat) (h0:-9223372036854775808≤i) (h1:i < 9223372036854775808) (hs:i.natAbs < 4294967296 ^ k):Calls Tryz.prog 198 #[.int .i64 i] w (jc w i k) :=
 (Bo w i h0 h1).mono fun _ _ r=>r.i hs
theorem AA (w:World) (i:Int) (h0:-4294967296 < i) (h1:i < 4294967296):Calls Tryz.prog 198 #[.int .i64 i] w (jc w i 1):=Bp w i 1 (by omega) (by omega) (by omega)
theorem IZ.zero (w:World):IZ w false none 0 0 0 0:=⟨[],Wd.nil_ w,by simp [WD.z,WD.ok,val],Qr⟩
theorem QZ.zero (w:World):QZ w false none 0 0 none 0 0 0 1:=⟨⟨false,[],[]⟩,⟨rfl,Wd.nil_ w,Wd.nil_ w,by omega,by omega⟩,by have:=yR 0;rw [nR] at this;exact this⟩
theorem QV.zero (w:World) (k:Nat):QV w false none 0 0 none 0 0 0 k:=by
 unfold QV;rw [nR];exact ⟨rfl,Wd.nil_ w,Wd.nil_ w,by omega,by omega⟩
theorem IV.zero (w:World) (k:Nat):IV w false none 0 0 0 k:=⟨rfl,by have:(wh 0).mag=[]:=aB;rw [this];exact Wd.nil_ w,by omega⟩
theorem ah (w:World) (c:Array Value) (t:TypeId) {g:Nat}(h:g=w.heap.size):Blk (w.alloc (.cells c t)) g t c:=by subst h;exact Blk.new w t c
theorem Blk.set_at {w:World}{g:Nat}{t:TypeId}{cs:Array Value}(h:Blk w g t cs) (i:Nat) (v:Value) (cs':Array Value) (e:cs.setIfInBounds i v=cs'):Blk (w.setCell ⟨g,i,none⟩ v) g t cs':=by subst e;exact h.set_ i v
theorem Blk.box {w:World}{g:Nat}{t:TypeId}{c:Array Value}(h:Blk w g t c) (hc:noU c=true:=by rfl):Box w g t:=⟨c,_,h,hc⟩
abbrev SeesX (G g:Nat) (W0 W:World):Prop:=((∀ b o,b < G→b≠g→W.cell? ⟨b,o,none⟩=W0.cell? ⟨b,o,none⟩)∧(∀ b o,b < G→W.frozen? ⟨b,o,none⟩=W0.frozen? ⟨b,o,none⟩))∧G≤W.heap.size
theorem SeesX.of {G g:Nat}{W0 W:World}(h:G≤W0.heap.size) (hb:Below W0.heap.size W0 W):SeesX G g W0 W :=
 ⟨⟨fun b o hlt _=>(ct hb).1 b o (Nat.lt_of_lt_of_le hlt h),fun b o hlt=>(ct hb).2 b o (Nat.lt_of_lt_of_le hlt h)⟩,Nat.le_trans h hb.size⟩
theorem SeesX.set {G g:Nat}{W0 W:World}(h:SeesX G g W0 W) {i:Nat}{u:Value}:SeesX G g W0 (W.setCell ⟨g,i,none⟩ u):=by
 refine ⟨⟨fun b o hlt hne=>?_,fun b o hlt=>?_⟩,?_⟩
 ·rw [← h.1.1 b o hlt hne];unfold World.cell?;rw [Below.heap_setCell _ _ _ b hne]
 ·rw [← h.1.2 b o hlt];exact World.frozen?_setCell ..
 have:=h.2;simp [World.setCell];exact this
theorem uI (i:Int):Rat.divInt i 1=(i:Rat):=by have:=mm (i:Rat);simpa using this.symm
theorem sign3 (z:Int):z=0∨z.sign=1∨z.sign=-1:=by
 rcases Int.lt_trichotomy z 0 with h | h | h
 ·exact .inr (.inr (Int.sign_eq_neg_one_of_neg h))
 ·exact .inl h
 exact .inr (.inl (Int.sign_eq_one_of_pos h))
theorem pi {z:Int}(h:z.sign=1):0 < z:=Int.sign_eq_one_iff_pos.1 h
theorem mV {z:Int}(h:z.sign=-1):0 < -z:=by have:=Int.sign_eq_neg_one_iff_neg.1 h;omega
theorem uJ {a b:Int}(h:0 < b):((Nat.gcd a.natAbs b.natAbs:Nat):Int)≠0:=by
 have:0 < Nat.gcd a.natAbs b.natAbs:=Nat.gcd_pos_of_pos_right _ (by omega);omega
theorem lm {a:Int}(g:Nat) (h:0 < a):(wh (a / (g:Int))).mag=ap (a.natAbs / g):=by
 have e:(a / (g:Int))=((a.natAbs / g:Nat):Int):=by
  rw [Int.natCast_ediv,Int.natAbs_of_nonneg (by omega)]
 rw [e];rfl
theorem uK {z d:Int}{q:Rat}(hz:z.sign=1) (hd:0 < d) (hq:Rat.divInt z d=q) :
 (rd q).num=(wh (z / ((Nat.gcd z.natAbs d.natAbs:Nat):Int))).mag∧(rd q).den=(wh (d / ((Nat.gcd z.natAbs d.natAbs:Nat):Int))).mag∧(rd q).neg=false:=by
 have hp:=pi hz;rw [← hq,jZ (by omega) hd,lm _ hp,lm _ hd];exact ⟨rfl,rfl,by simp;omega⟩
theorem uL {z d:Int}{q:Rat}(hz:z.sign=-1) (hd:0 < d) (hq:Rat.divInt z d=q) :
 (rd q).num=(wh (-z / ((Nat.gcd z.natAbs d.natAbs:Nat):Int))).mag∧(rd q).den=(wh (d / ((Nat.gcd z.natAbs d.natAbs:Nat):Int))).mag∧(rd q).neg=true:=by
 have hp:=mV hz;rw [← hq,jZ (by omega) hd,lm _ hp,lm _ hd,Int.natAbs_neg];exact ⟨rfl,rfl,by simp;omega⟩
theorem gL (w:World) (b A n c z k) (h:IZ w b A n c z k) (s:Int) (hs:z.sign=s) (hk:k≤1000000000):Calls Tryz.prog 192 #[.agg #[.bool b,.slice A n c]] w (av w (.int .i64 s)):=by
 subst hs;exact zr w b A n c z k h hk
theorem ef {P:Program}{c:Code}{Q:Exit→Act→World→Prop}{a:Act}{w:World}(h:∀ w6,w6=w→Code.wp P c Q a w6):Code.wp P c Q a w:=h w rfl
section
variable {W w w':World}{g gs t t0 t1 t2:Nat}{c0 c1 c2:Array Value}{a0 a1 a2:Value}
theorem Blk.v2 (h:Blk w g t #[a0,a1]):(w.cell? ⟨g,0,none⟩=some a0∧w.cell? ⟨g,1,none⟩=some a1)∧(w.frozen? ⟨g,0,none⟩=false∧w.frozen? ⟨g,1,none⟩=false)∧g < w.heap.size:=⟨h.c2,h.f2,h.lt⟩
theorem Blk.v3 (h:Blk w g t #[a0,a1,a2]):(w.cell? ⟨g,0,none⟩=some a0∧w.cell? ⟨g,1,none⟩=some a1∧w.cell? ⟨g,2,none⟩=some a2)∧(w.frozen? ⟨g,0,none⟩=false∧w.frozen? ⟨g,1,none⟩=false∧w.frozen? ⟨g,2,none⟩=false)∧g < w.heap.size:=⟨h.c3,h.f3,h.lt⟩
theorem Blk.k2 (h:Blk w g t #[a0,a1]) (hk:KT t=false) (u0 u1:Value) (hn:noU #[a0,a1]=true:=by rfl) (g0:sI u0=true:=by rfl):Kp w ((w.setCell ⟨g,0,none⟩ u0).setCell ⟨g,1,none⟩ u1):=((Kp.refl w).sb (g) 0 (h.box hn) hk u0).sb (g) 1 ((h.box hn).set ⟨g,0,none⟩ u0 g0) hk u1
theorem Blk.k3 (h:Blk w g t #[a0,a1,a2]) (hk:KT t=false) (u0 u1 u2:Value) (hn:noU #[a0,a1,a2]=true:=by rfl) (g0:sI u0=true:=by rfl) (g1:sI u1=true:=by rfl):Kp w (((w.setCell ⟨g,0,none⟩ u0).setCell ⟨g,1,none⟩ u1).setCell ⟨g,2,none⟩ u2):=(((Kp.refl w).sb (g) 0 (h.box hn) hk u0).sb (g) 1 ((h.box hn).set ⟨g,0,none⟩ u0 g0) hk u1).sb (g) 2 (((h.box hn).set ⟨g,0,none⟩ u0 g0).set ⟨g,1,none⟩ u1 g1) hk u2
structure B3 (W:World) (gs t0:Nat) (c0:Array Value) (t1:Nat) (c1:Array Value) (t2:Nat) (c2:Array Value) (w:World):Prop where
  s:Blk w gs t0 c0
  t:Blk w (gs+1) t1 c1
  r:Blk w (gs+1+1) t2 c2
  q:Below gs W w
theorem B3.call (h:B3 W gs t0 c0 t1 c1 t2 c2 w) (hb:Below w.heap.size w w'):B3 W gs t0 c0 t1 c1 t2 c2 w':=⟨h.s.below hb h.s.lt,h.t.below hb h.t.lt,h.r.below hb h.r.lt,h.q.trans (hb.mono (by have:=h.s.lt;omega))⟩
theorem B3.p0 (h:B3 W gs t0 #[a0,a1] t1 c1 t2 c2 w) (u0 u1:Value):B3 W gs t0 #[u0,u1] t1 c1 t2 c2 ((w.setCell ⟨gs,0,none⟩ u0).setCell ⟨gs,1,none⟩ u1) :=
 ⟨(h.s.set_ 0 u0).set_ 1 u1,(h.t.far (p:=⟨gs,0,none⟩) (by show gs+1≠gs;omega) u0).far (p:=⟨gs,1,none⟩) (by show gs+1≠gs;omega) u1,(h.r.far (p:=⟨gs,0,none⟩) (by show gs+1+1≠gs;omega) u0).far (p:=⟨gs,1,none⟩) (by show gs+1+1≠gs;omega) u1,(h.q.setCell (p:=⟨gs,0,none⟩) Qr u0).setCell (p:=⟨gs,1,none⟩) Qr u1⟩
theorem B3.p1 (h:B3 W gs t0 c0 t1 #[a0,a1] t2 c2 w) (u0 u1:Value):B3 W gs t0 c0 t1 #[u0,u1] t2 c2 ((w.setCell ⟨gs+1,0,none⟩ u0).setCell ⟨gs+1,1,none⟩ u1) :=
 ⟨(h.s.far (p:=⟨gs+1,0,none⟩) (by show gs≠gs+1;omega) u0).far (p:=⟨gs+1,1,none⟩) (by show gs≠gs+1;omega) u1,(h.t.set_ 0 u0).set_ 1 u1,(h.r.far (p:=⟨gs+1,0,none⟩) (by show gs+1+1≠gs+1;omega) u0).far (p:=⟨gs+1,1,none⟩) (by show gs+1+1≠gs+1;omega) u1,(h.q.setCell (p:=⟨gs+1,0,none⟩) (by show gs≤gs+1;omega) u0).setCell (p:=⟨gs+1,1,none⟩) (by show gs≤gs+1;omega) u1⟩
end
def sgz (z z':Int):Int:=if z' < 0 then -z else z
theorem pj {z z':Int}{q:Rat}(h0:z≠0) (hd:z'≠0) (hq:Rat.divInt z z'=q):0 < sgz z' z'∧Rat.divInt (sgz z z') (sgz z' z')=q∧((sgz z z').sign=1∨(sgz z z').sign=-1):=by
 have hs:∀ x:Int,x≠0→x.sign=1∨x.sign=-1:=fun x hx=>by
  rcases sign3 x with h | h | h
  ·exact absurd h hx
  ·exact .inl h
  exact .inr h
 unfold sgz;split
 ·exact ⟨by omega,by rw [lc _ _ hd];exact hq,hs _ (by omega)⟩
 exact ⟨by omega,hq,hs _ h0⟩
theorem xc {y d:Int}{q:Rat}(hs:y.sign=1∨y.sign=-1) (hd:0 < d) (hq:Rat.divInt y d=q) :
 (rd q).num=(wh (sgz y y / ((Nat.gcd y.natAbs d.natAbs:Nat):Int))).mag∧(rd q).den=(wh (d / ((Nat.gcd y.natAbs d.natAbs:Nat):Int))).mag∧(rd q).neg=decide (y.sign < 0):=by
 unfold sgz;rcases hs with h | h
 ·rw [if_neg (by have:=pi h;omega),h];exact uK h hd hq
 rw [if_pos (by have:=mV h;omega),h];exact uL h hd hq
theorem zt (w:World) (b A n c z k) (h:IZ w b A n c z k) (b' A' n' c' z' k') (h':IZ w b' A' n' c' z' k') (q:Rat) (K:Nat) (hd:z'≠0) (hq:Rat.divInt z z'=q) (hs:Sz q K) (hk:k+k'≤300000000) :
 Calls Tryz.prog 228 #[.agg #[.bool b,.slice A n c],.agg #[.bool b',.slice A' n' c']] w (ph w q K):=by
 have HD:=Qh hd;have HQ:=Qh hq;have HS:=Qh hs;obtain ⟨s,hs1⟩:∃ s,z.sign=s:=⟨_,rfl⟩;obtain ⟨s',hs2⟩:∃ s,z'.sign=s:=⟨_,rfl⟩;have H1:=Qh hs1;have H2:=Qh hs2;clear hd hq hs hs1 hs2;go_in;go_upto_region 1 with fail;refine ef ?_;intro w1 hw1;have k1:B3 w w.heap.size 194 #[.bool b,.slice A n c] 194 #[.bool b',.slice A' n' c'] 65 #[.bool false,.slice none 0 0,.slice none 0 0] w1:=by rw [hw1];exact ⟨((Blk.new w _ _).alloc _).alloc _,(ah _ _ _ (by simp)).alloc _,ah _ _ _ (by simp),(((aa w).alloc Qr _).alloc (by simp) _).alloc (by simp <;> omega) _⟩
 replace h:=h.belw k1.q;replace h':=h'.belw k1.q;clear hw1;have y:=k1.s.v2;go_wp2_with fail;(refine (gL _ b A n c z k h s H1.out (by omega)).mono ?_);rintro e w2 ⟨rfl,hb2⟩;replace k1:=k1.call hb2;replace h:=h.belw hb2;replace h':=h'.belw hb2;clear hb2 y;by_cases hz:z=0
 ·obtain rfl:s=0:=by rw [← H1.out,hz];rfl
  have hq0:q=0:=by rw [← HQ.out,hz,Rat.zero_divInt]
  subst hq0;have y:=k1.r.v3;go_wp2_with fail;refine bodyPost_ret (v:=.agg #[.bool false,.slice none 0 0,.slice none 0 0]) (by simp [results,Tryz.results228,go_sem, *] <;> trivial) rfl ?_;exact ⟨false,none,0,0,none,0,0,rfl,QV.zero _ _,((k1.q.setCell (p:=⟨w.heap.size+1+1,0,none⟩) (by show w.heap.size≤w.heap.size+1+1;omega) (.bool false)).setCell (p:=⟨w.heap.size+1+1,1,none⟩) (by show w.heap.size≤w.heap.size+1+1;omega) (.slice none 0 0)).setCell (p:=⟨w.heap.size+1+1,2,none⟩) (by show w.heap.size≤w.heap.size+1+1;omega) (.slice none 0 0)⟩
 obtain ⟨hp,hqq,hsg⟩:=pj hz HD.out HQ.out;have HP:=Qh hp;have HQQ:=Qh hqq;have HSG:=Qh hsg;have u1:(s == 0)=false:=beq_eq_false_iff_ne.2 (by rw [← H1.out];exact fun e=>hz (Int.sign_eq_zero_iff_zero.1 e));have u2:(s=0)=False:=by simpa using u1
 clear hz hp hqq hsg HQ;have y:=k1.t.v2;go_wp2_with fail;(refine (gL _ b' A' n' c' z' k' h' s' H2.out (by omega)).mono ?_);rintro e w3 ⟨rfl,hb3⟩;replace k1:=k1.call hb3;replace h:=h.belw hb3;replace h':=h'.belw hb3;clear hb3 y;obtain ⟨y1,hy1⟩:∃ y,sgz z z'=y:=⟨_,rfl⟩;obtain ⟨y2,hy2⟩:∃ y,sgz z' z'=y:=⟨_,rfl⟩;rw [hy1] at HQQ HSG;rw [hy2] at HP HQQ;have HY1:=Qh hy1;have HY2:=Qh hy2;clear hy1 hy2;go_upto_if 13 with fail;go_cut [] (fun wx=>∃ b8 A8 n8 c8 b9 A9 n9 c9,B3 w w.heap.size 194 #[.bool b8,.slice A8 n8 c8] 194 #[.bool b9,.slice A9 n9 c9] 65 #[.bool false,.slice none 0 0,.slice none 0 0] wx∧IZ wx b8 A8 n8 c8 y1 k∧IZ wx b9 A9 n9 c9 y2 k')
 case first =>
  have y:=k1.s.v2;have y9:=k1.t.v2;by_cases hn:z' < 0
  ·obtain rfl:s'=-1:=by rw [← H2.out];exact Int.sign_eq_neg_one_iff_neg.2 hn
   obtain rfl:-z=y1:=by rw [← HY1.out];exact (if_pos hn).symm
   obtain rfl:-z'=y2:=by rw [← HY2.out];exact (if_pos hn).symm
   clear hn;go_wp2_with fail
   go_region_with (first
    | (go_at_call 190;(with_reducible refine (rF _ b A n c z k ?_ ?_).mono ?_);(first | exact h | exact h.belw (af (aa _) _) | fail);(omega);rintro e w5 ⟨b5,A5,n5,c5,rfl,h5,hb5⟩;replace hb5:=ak (af (aa _) 1) hb5;replace h':=h'.belw hb5;replace k1:=k1.call hb5;have y:=k1.s.v2;have y9:=k1.t.v2)
    | (go_at_call 190;(with_reducible refine (rF _ b' A' n' c' z' k' ?_ ?_).mono ?_);(exact h');(omega);rintro e w6 ⟨b6,A6,n6,c6,rfl,h6,hb6⟩;replace h5:=h5.belw hb6;replace k1:=k1.call hb6;have y:=k1.s.v2;have y9:=k1.t.v2))
   all_goals
    go_wp2_with fail;go_meet;exact ⟨_,_,_,_,_,_,_,_,(k1.p0 _ _).p1 _ _,h5.iz.keep ((k1.s.k2 (by decide) _ _).trans ((k1.p0 _ _).t.k2 (by decide) _ _)),h6.iz.keep ((k1.s.k2 (by decide) _ _).trans ((k1.p0 _ _).t.k2 (by decide) _ _))⟩
  have hp:0 < z':=by have:=HD.out;omega
  obtain rfl:s'=1:=by rw [← H2.out];exact Int.sign_eq_one_iff_pos.2 hp
  obtain rfl:z=y1:=by rw [← HY1.out];exact (if_neg hn).symm
  obtain rfl:z'=y2:=by rw [← HY2.out];exact (if_neg hn).symm
  clear hn hp;go_wp2_with fail;go_meet;exact ⟨_,_,_,_,_,_,_,_,k1,h,h'⟩
 case rest =>
  clear k1 h h' HY1 HY2;obtain ⟨b8,A8,n8,c8,b9,A9,n9,c9,k1,h8,h9⟩:=hcut;rename World=>w7;have y:=And.intro k1.s.v2 k1.t.v2;go_wp2_with fail;(refine (yu _ b8 A8 n8 c8 y1 k h8 b9 A9 n9 c9 y2 k' h9 (by omega)).mono ?_);rintro e w8 ⟨b3,A3,n3,c3,rfl,h3,hb8⟩;replace k1:=k1.call hb8;replace h8:=h8.belw hb8;replace h9:=h9.belw hb8;obtain ⟨g,hg⟩:∃ g:Int,((Nat.gcd y1.natAbs y2.natAbs:Nat):Int)=g:=⟨_,rfl⟩;have HG:=Qh hg;rw [hg] at h3;clear hb8 y hg;go_upto_region 6 with fail;refine ef ?_;intro w9 hw9;have q9:Below w8.heap.size w8 w9:=by rw [hw9];exact (aa w8).alloc Qr _
  have x9:Blk w9 w8.heap.size 194 #[.bool b3,.slice A3 n3 c3]:=by rw [hw9];exact Blk.new w8 _ _
  replace h8:=h8.belw q9;replace h9:=h9.belw q9;replace h3:=h3.belw q9;have l9:=k1.r.lt;replace k1:=k1.call q9;obtain ⟨gg,hgg⟩:∃ g,w8.heap.size=g:=⟨_,rfl⟩;rw [hgg] at x9 l9 ⊢;clear hw9 q9 hgg;obtain ⟨s1,hs1⟩:∃ s,y1.sign=s:=⟨_,rfl⟩;have H3:=Qh hs1;clear hs1;have y:=k1.s.v2;go_wp2_with fail;(refine (gL _ b8 A8 n8 c8 y1 k h8 s1 H3.out (by omega)).mono ?_);rintro e w10 ⟨rfl,hb10⟩;replace k1:=k1.call hb10;replace h8:=h8.belw hb10;replace h9:=h9.belw hb10;replace h3:=h3.belw hb10;replace x9:=x9.b hb10;clear hb10 y;obtain ⟨y3,hy3⟩:∃ y,sgz y1 y1=y:=⟨_,rfl⟩;have HY3:=Qh hy3;clear hy3;go_upto_if 24 with fail;obtain ⟨m,hm⟩:∃ m,decide (s1 < 0)=m:=⟨_,rfl⟩;rw [hm];have HM:=Qh hm;clear hm;go_cut [] (fun wx=>∃ b4 A4 n4 c4,B3 w w.heap.size 194 #[.bool b4,.slice A4 n4 c4] 194 #[.bool b9,.slice A9 n9 c9] 65 #[.bool false,.slice none 0 0,.slice none 0 0] wx∧Blk wx gg 194 #[.bool b3,.slice A3 n3 c3]∧IZ wx b4 A4 n4 c4 y3 k∧IZ wx b9 A9 n9 c9 y2 k'∧IZ wx b3 A3 n3 c3 g (k+k'))
  case first =>
   have y:=k1.s.v2;by_cases hn:y1 < 0
   ·obtain rfl:m=true:=by rw [← HM.out,← H3.out,Int.sign_eq_neg_one_iff_neg.2 hn];rfl
    obtain rfl:-y1=y3:=by rw [← HY3.out];exact (if_pos hn).symm
    clear hn;go_wp2_with fail;(refine (rF _ b8 A8 n8 c8 y1 k h8 (by omega)).mono ?_);rintro e w11 ⟨b4,A4,n4,c4,rfl,h4,hb11⟩;replace k1:=k1.call hb11;replace x9:=x9.b hb11;replace h9:=h9.belw hb11;replace h3:=h3.belw hb11;have y:=k1.s.v2;go_wp2_with fail;go_meet;have kp:=k1.s.k2 (by decide) (.bool b4) (.slice A4 n4 c4);exact ⟨_,_,_,_,k1.p0 _ _,(x9.far (p:=⟨w.heap.size,0,none⟩) (by show gg≠w.heap.size;omega) _).far (p:=⟨w.heap.size,1,none⟩) (by show gg≠w.heap.size;omega) _,h4.iz.keep kp,h9.keep kp,h3.iz.keep kp⟩
   obtain rfl:y1=y3:=by rw [← HY3.out];exact (if_neg hn).symm
   obtain rfl:m=false:=by rw [← HM.out,← H3.out];exact decide_eq_false (by have:=Int.sign_nonneg_iff.2 (Int.not_lt.1 hn);omega)
   clear hn;go_wp2_with fail;go_meet;exact ⟨_,_,_,_,k1,x9,h8,h9,h3.iz⟩
  case rest =>
   clear k1 x9 h8 h9 h3;obtain ⟨b4,A4,n4,c4,k1,x9,h8,h9,h3⟩:=hcut;rename World=>w12;have g0:g≠0:=by rw [← HG.out];exact uJ HP.out
   have y:=And.intro k1.s.v2 x9.v2;go_wp2_with fail;(refine (yv _ b4 A4 n4 c4 y3 k h8 b3 A3 n3 c3 g (k+k') h3 (by omega) g0).mono ?_);rintro e w13 ⟨b5,A5,n5,c5,_,_,_,_,rfl,h5,_,hb13⟩;replace k1:=k1.call hb13;replace x9:=x9.b hb13;replace h9:=h9.belw hb13;replace h3:=h3.belw hb13;clear hb13 y;have y:=k1.s.v2;go_upto_region 10 with fail;refine ef ?_;intro w14 hw14;have kp:=k1.s.k2 (by decide) (.bool b5) (.slice A5 n5 c5);have k2:=k1.p0 (.bool b5) (.slice A5 n5 c5);have x10:=(x9.far (p:=⟨w.heap.size,0,none⟩) (by show gg≠w.heap.size;omega) (.bool b5)).far (p:=⟨w.heap.size,1,none⟩) (by show gg≠w.heap.size;omega) (.slice A5 n5 c5);rw [← hw14] at kp k2 x10;replace h5:=h5.keep kp;replace h9:=h9.keep kp;replace h3:=h3.keep kp;clear hw14 kp k1 x9 y;have y:=And.intro k2.t.v2 x10.v2;go_wp2_with fail;(refine (yv _ b9 A9 n9 c9 y2 k' h9 b3 A3 n3 c3 g (k+k') h3 (by omega) g0).mono ?_);rintro e w15 ⟨b6,A6,n6,c6,_,_,_,_,rfl,h6,_,hb15⟩;replace k2:=k2.call hb15;replace h5:=h5.belw hb15;clear hb15 y;have y:=And.intro k2.s.v2 (And.intro k2.t.v2 k2.r.v3);go_wp2_with fail;refine bodyPost_ret (v:=.agg #[.bool m,.slice A5 n5 c5,.slice A6 n6 c6]) (by simp [results,Tryz.results228,go_sem, *] <;> trivial) rfl ?_;clear y;have k3:=k2.p1 (.bool b6) (.slice A6 n6 c6);have kp:=(k2.t.k2 (by decide) (.bool b6) (.slice A6 n6 c6)).trans (k3.r.k3 (by decide) (.bool m) (.slice A5 n5 c5) (.slice A6 n6 c6));obtain ⟨e1,e2,e3⟩:=xc HSG.out HP.out HQQ.out;rw [HG.out] at e1 e2;rw [HY3.out] at e1;rw [H3.out,HM.out] at e3;exact ⟨_,_,_,_,_,_,_,rfl,QV.mk_ (by rw [e1];exact h5.2.1.keep kp) (by rw [e2];exact h6.2.1.keep kp) e3 HS.out,((k3.q.setCell (p:=⟨w.heap.size+1+1,0,none⟩) (by show w.heap.size≤w.heap.size+1+1;omega) _).setCell (p:=⟨w.heap.size+1+1,1,none⟩) (by show w.heap.size≤w.heap.size+1+1;omega) _).setCell (p:=⟨w.heap.size+1+1,2,none⟩) (by show w.heap.size≤w.heap.size+1+1;omega) _⟩

section
variable {w:World}{b:Bool}{A:Option Addr}{n c:Nat}{D:Option Addr}{m e:Nat}{a:RD}{k:Nat}(h:QD w b A n c D m e a k)
include h
theorem yw (h1:n=0) (h2:m=0):a.ok=!b:=by
 have e1:a.num=[]:=List.eq_nil_of_length_eq_zero (by rw [← h.2.1.2.1,h1]);have e2:a.den=[]:=List.eq_nil_of_length_eq_zero (by rw [← h.2.2.1.2.1,h2]);unfold RD.ok;rw [if_pos ⟨e1,e2⟩,h.1]
theorem QD.num_ne (h1:0 < n):a.num≠[]:=by intro e;have:=h.2.1.2.1;rw [e] at this;simp at this;omega
theorem QD.den_ne_ (h1:0 < m):a.den≠[]:=by intro e;have:=h.2.2.1.2.1;rw [e] at this;simp at this;omega
theorem AB (h1:n=0) (h2:0 < m):a.ok=false:=by
 have e1:a.num=[]:=List.eq_nil_of_length_eq_zero (by rw [← h.2.1.2.1,h1]);unfold RD.ok;rw [if_neg (by intro x;exact h.den_ne_ h2 x.2)];simp [e1]
theorem AD (h1:0 < n) (h2:m=0):a.ok=false:=by
 have e2:a.den=[]:=List.eq_nil_of_length_eq_zero (by rw [← h.2.2.1.2.1,h2]);unfold RD.ok;rw [if_neg (by intro x;exact h.num_ne h1 x.1)];simp [e2]
omit h in
theorem uM {l:List Nat}(hl:l≠[]):WD.ok ⟨false,l⟩=last0 l:=by unfold WD.ok last0;simp [hl]
theorem zu (h1:0 < n) (h2:0 < m):a.ok=(WD.ok ⟨false,a.num⟩ && WD.ok ⟨false,a.den⟩ && Nat.gcd (val a.num) (val a.den) == 1):=by
 have e1:=h.num_ne h1;have e2:=h.den_ne_ h2;unfold RD.ok;have f1:(a.num != [])=true:=bne_iff_ne.2 e1;have f2:(a.den != [])=true:=bne_iff_ne.2 e2;rw [if_neg (by intro x;exact e1 x.1),uM e1,uM e2,f1,f2];rfl
theorem QD.num_z (hk:WD.ok ⟨false,a.num⟩=true):IZ w false A n c (val a.num:Int) k:=⟨_,h.2.1,by simp [WD.z,hk],h.2.2.2.1⟩
theorem QD.den_z (hk:WD.ok ⟨false,a.den⟩=true):IZ w false D m e (val a.den:Int) k:=⟨_,h.2.2.1,by simp [WD.z,hk],h.2.2.2.2⟩
end
theorem rG {x y:Nat}{s:Int}{r:Bool}(hc:fN ((Nat.gcd ((x:Int)).natAbs ((y:Int)).natAbs:Nat)) 1=s) (hr:r=(Nat.gcd x y == 1)):(s == 0)=r:=by
 subst hc hr;simp only [Int.natAbs_natCast];generalize Nat.gcd x y=g;unfold fN;by_cases h1:g=1
 ·subst h1;rfl
 by_cases h2:g < 1
 ·have:g=0:=by omega
  subst this;rfl
 have h3:¬ ((g:Int) < 1):=by omega
 have h4:¬ ((g:Int)=1):=by omega
 simp [h1,h3,h4]
theorem mW (w:World) (b:Bool) (A:Option Addr) (n c:Nat) (v:Bool) (l:List Nat) (h:Wd w A n c l) (hv:WD.ok ⟨b,l⟩=v) (hn:n≤1000000000) :
 Calls Tryz.prog 151 #[.agg #[.bool b,.slice A n c]] w (av w (.bool v)):=by subst hv;exact jq w b A n c l h (by omega)
theorem xd (w:World) (b A n c z k) (h:IZ w b A n c z k) (b' A' n' c' z' k') (h':IZ w b' A' n' c' z' k') (s:Int) (hs:fN z z'=s) (hk:k+k'≤1000000000) :
 Calls Tryz.prog 152 #[.agg #[.bool b,.slice A n c],.agg #[.bool b',.slice A' n' c']] w (av w (.int .i64 s)):=by subst hs;exact yt w b A n c z k h b' A' n' c' z' k' h' hk
theorem yx (w:World)  :
 Calls Tryz.prog 154 #[] w (jc w 1 1):=by
 go_in;go_wp2_with fail;(with_reducible refine (AA _ (1) ?_ ?_).mono ?_);(omega);(omega);rintro e w1 ⟨b1,A1,n1,c1,rfl,h1,hb1⟩;have q1:=hb1.q1;have x1a:Blk w1 w.heap.size 194 #[.bool false,.slice none 0 0]:=(ah _ _ _ (by simp)).below hb1 (by simp);have bw1:=(aa w).trans (q1.mono (aa w).size);have lw1:=hb1.l1;clear q1;have cx1a:=x1a.c2;have fx1a:=x1a.f2;have lx1a:=fM x1a.lt;go_wp2_with fail;refine bodyPost_ret (v:=.agg #[.bool b1,.slice A1 n1 c1]) (by simp [results,Tryz.results154,go_sem, *] <;> trivial) rfl ?_;exact ⟨b1,A1,n1,c1,rfl,h1.keep (((Kp.refl w1).sb w.heap.size 0 x1a.box (by decide) (.bool b1)).sb w.heap.size 1 (x1a.box.set ⟨w.heap.size,0,none⟩ (.bool b1)) (by decide) (.slice A1 n1 c1)),((bw1.sc w.heap.size 0 (by omega) (.bool b1)).sc w.heap.size 1 (by omega) (.slice A1 n1 c1))⟩
theorem sU (w:World) (b A n c D m e a k) (h:QD w b A n c D m e a k) (hk:k≤300000000) (h0:n=0∨m=0):Calls Tryz.prog 112 #[.agg #[.bool b,.slice A n c,.slice D m e]] w (av w (.bool a.ok)):=by
 rcases Nat.eq_zero_or_pos n with h1 | h1
 ·rcases Nat.eq_zero_or_pos m with h2 | h2
  ·subst h1 h2
   rw [yw h rfl rfl];go_in;go_wp2;go_ret;exact ⟨rfl,(aa w).alloc Qr _⟩
  rw [AB h h1 h2];have e1:((n:Int) == 0)=true:=by simp [h1]
  have e2:((m:Int) == 0)=false:=by simp;omega
  clear h1 h2 h0 hk h;go_in;go_upto_region 1 with fail;refine ef ?_;intro w1 hw1;have x1:Blk w1 w.heap.size 65 #[.bool b,.slice A n c,.slice D m e]:=by rw [hw1];exact Blk.new w _ _
  have bw1:Below w.heap.size w w1:=by rw [hw1];exact (aa w).alloc Qr _
  clear hw1;have y:=x1.v3;go_upto_region 3 with fail;go_cut [3,4] (fun s3 s4 wx=>∃ g3 g4,s3=.pointer (some ⟨g3,0,none⟩)∧s4=.pointer (some ⟨g4,0,none⟩)∧Blk wx g3 194 #[.bool false,.slice A n c]∧Blk wx g4 194 #[.bool false,.slice D m e]∧Blk wx w.heap.size 65 #[.bool b,.slice A n c,.slice D m e]∧Below w1.heap.size w1 wx)
  case first =>
   go_region
   all_goals
    go_wp2_with fail;go_meet
    first
     | exact ⟨_,_,rfl,rfl,((ah _ _ _ rfl).alloc _).drew,(ah _ _ _ (by simp)).drew,((x1.alloc _).alloc _).drew,((((Below.refl _ _).alloc Qr _).alloc (by simp) _).drew)⟩
     | exact ⟨_,_,rfl,rfl,(ah _ _ _ (by simp)).drew,((ah _ _ _ rfl).alloc _).drew,((x1.alloc _).alloc _).drew,((((Below.refl _ _).alloc Qr _).alloc (by simp) _).drew)⟩
  case rest =>
   clear x1 y;obtain ⟨g3,g4,rfl,rfl,y3,y4,x1,q1⟩:=hcut;rename World=>w2;replace bw1:=bw1.trans (q1.mono bw1.size);clear q1;have y:=And.intro x1.v3 (And.intro y3.v2 y4.v2);go_wp2;go_ret;exact ⟨rfl,bw1⟩
 have h2:m=0:=by omega
 rw [AD h h1 h2];have e1:((n:Int) == 0)=false:=by simp;omega
 have e2:((m:Int) == 0)=true:=by simp [h2]
 clear h1 h2 h0 hk h;go_in;go_upto_region 1 with fail;refine ef ?_;intro w1 hw1;have x1:Blk w1 w.heap.size 65 #[.bool b,.slice A n c,.slice D m e]:=by rw [hw1];exact Blk.new w _ _
 have bw1:Below w.heap.size w w1:=by rw [hw1];exact (aa w).alloc Qr _
 clear hw1;have y:=x1.v3;go_upto_region 3 with fail;go_cut [3,4] (fun s3 s4 wx=>∃ g3 g4,s3=.pointer (some ⟨g3,0,none⟩)∧s4=.pointer (some ⟨g4,0,none⟩)∧Blk wx g3 194 #[.bool false,.slice A n c]∧Blk wx g4 194 #[.bool false,.slice D m e]∧Blk wx w.heap.size 65 #[.bool b,.slice A n c,.slice D m e]∧Below w1.heap.size w1 wx)
 case first =>
  go_region
  all_goals
   go_wp2_with fail;go_meet
   first
    | exact ⟨_,_,rfl,rfl,((ah _ _ _ rfl).alloc _).drew,(ah _ _ _ (by simp)).drew,((x1.alloc _).alloc _).drew,((((Below.refl _ _).alloc Qr _).alloc (by simp) _).drew)⟩
    | exact ⟨_,_,rfl,rfl,(ah _ _ _ (by simp)).drew,((ah _ _ _ rfl).alloc _).drew,((x1.alloc _).alloc _).drew,((((Below.refl _ _).alloc Qr _).alloc (by simp) _).drew)⟩
 case rest =>
  clear x1 y;obtain ⟨g3,g4,rfl,rfl,y3,y4,x1,q1⟩:=hcut;rename World=>w2;replace bw1:=bw1.trans (q1.mono bw1.size);clear q1;have y:=And.intro x1.v3 (And.intro y3.v2 y4.v2);go_wp2;go_ret;exact ⟨rfl,bw1⟩
theorem xe (w:World) (b A n c D m e a k) (h:QD w b A n c D m e a k) (hk:k≤300000000):Calls Tryz.prog 112 #[.agg #[.bool b,.slice A n c,.slice D m e]] w (av w (.bool a.ok)):=by
 by_cases h0:n=0∨m=0
 ·exact sU w b A n c D m e a k h hk h0
 have h1:0 < n:=by omega
 have h2:0 < m:=by omega
 have hnk:=h.2.2.2.1;have hmk:=h.2.2.2.2;have hok:=zu h h1 h2;have e1:((n:Int) == 0)=false:=by simp;omega
 have e2:((m:Int) == 0)=false:=by simp;omega
 obtain ⟨u,hu⟩:∃ u,WD.ok ⟨false,a.num⟩=u:=⟨_,rfl⟩;obtain ⟨v,hv⟩:∃ v,WD.ok ⟨false,a.den⟩=v:=⟨_,rfl⟩;rw [hok,hu,hv];have HU:=Qh hu;have HV:=Qh hv;have H:=Qh h;clear h0 h1 h2 hok hu hv h;go_in;go_upto_region 1 with fail;refine ef ?_;intro w1 hw1;have x1:Blk w1 w.heap.size 65 #[.bool b,.slice A n c,.slice D m e]:=by rw [hw1];exact Blk.new w _ _
 have bw1:Below w.heap.size w w1:=by rw [hw1];exact (aa w).alloc Qr _
 clear hw1;have y:=x1.v3;go_upto_region 3 with fail;go_cut [3,4] (fun s3 s4 wx=>∃ g3 g4,s3=.pointer (some ⟨g3,0,none⟩)∧s4=.pointer (some ⟨g4,0,none⟩)∧Blk wx g3 194 #[.bool false,.slice A n c]∧Blk wx g4 194 #[.bool false,.slice D m e]∧Blk wx w.heap.size 65 #[.bool b,.slice A n c,.slice D m e]∧Below w1.heap.size w1 wx)
 case first =>
  go_region
  all_goals
   go_wp2_with fail;go_meet
   first
    | exact ⟨_,_,rfl,rfl,((ah _ _ _ rfl).alloc _).drew,(ah _ _ _ (by simp)).drew,((x1.alloc _).alloc _).drew,((((Below.refl _ _).alloc Qr _).alloc (by simp) _).drew)⟩
    | exact ⟨_,_,rfl,rfl,(ah _ _ _ (by simp)).drew,((ah _ _ _ rfl).alloc _).drew,((x1.alloc _).alloc _).drew,((((Below.refl _ _).alloc Qr _).alloc (by simp) _).drew)⟩
 case rest =>
  clear x1 y;obtain ⟨g3,g4,rfl,rfl,y3,y4,x1,q1⟩:=hcut;rename World=>w2;replace bw1:=bw1.trans (q1.mono bw1.size);clear q1;have y:=And.intro x1.v3 (And.intro y3.v2 y4.v2);go_wp2_with fail;(refine (mW _ false A n c u a.num (H.out.2.1.belw bw1) HU.out (by omega)).mono ?_);rintro e w3 ⟨rfl,hb3⟩;replace bw1:=bw1.trans (hb3.mono bw1.size);replace y3:=y3.b hb3;replace y4:=y4.b hb3;clear hb3 y x1;cases u
  ·go_wp2
   go_ret;exact ⟨rfl,bw1⟩
  have y:=And.intro y3.v2 y4.v2;go_wp2_with fail;(refine (mW _ false D m e v a.den (H.out.2.2.1.belw bw1) HV.out (by omega)).mono ?_);rintro e' w4 ⟨rfl,hb4⟩;replace bw1:=bw1.trans (hb4.mono bw1.size);replace y3:=y3.b hb4;replace y4:=y4.b hb4;clear hb4 y;cases v
  ·go_wp2
   go_ret;exact ⟨rfl,bw1⟩
  have hN:=(H.out.num_z HU.out).belw bw1;have hD:=(H.out.den_z HV.out).belw bw1;have y:=And.intro y3.v2 y4.v2;go_wp2_with fail;(refine (yu _ false A n c _ k hN false D m e _ k hD (by omega)).mono ?_);rintro e' w5 ⟨b9,A9,n9,c9,rfl,h9,hb5⟩;replace bw1:=bw1.trans (hb5.mono bw1.size);clear hb5 y hN hD y3 y4;go_wp2_with fail;(refine (yx _).mono ?_);rintro e' w6 ⟨b8,A8,n8,c8,rfl,h8,hb6⟩;replace bw1:=bw1.trans (hb6.mono bw1.size);replace h9:=h9.belw hb6;clear hb6;obtain ⟨s,hs⟩:∃ s,fN ((Nat.gcd ((val a.num:Int)).natAbs ((val a.den:Int)).natAbs:Nat)) 1=s:=⟨_,rfl⟩;have HS:=Qh hs;clear hs;go_wp2_with fail;(refine (xd _ b9 A9 n9 c9 _ (k+k) h9.iz b8 A8 n8 c8 1 1 h8.iz s HS.out (by omega)).mono ?_);rintro e' w7 ⟨rfl,hb7⟩;go_wp2;go_ret;exact bj (rG HS.out rfl) (bw1.trans (hb7.mono bw1.size))

theorem uN (w:World) (A:Option Addr) (n c:Nat) (l:List Nat) (h:Wd w A n c l) (i:Int) (hi:0≤i) (hn:n≤4398046511104) :
 Calls Tryz.prog 256 #[.slice A n c,.int .i64 i] w fun e w'=>e=.returned (.int .u64 (wd l i.toNat:Nat))∧w=w':=by
 obtain ⟨k,rfl⟩:=Int.eq_ofNat_of_zero_le hi;have hl:=h.lt k;have hlen:n=l.length:=h.2.1;by_cases hk:k < n
 ·obtain ⟨g,o,rfl,hc⟩:=h.at_ (by omega)
  have hck:=hc k hk;clear hc hi;have H:=Qh hlen;clear hlen;go_in;go_wp2;go_ret;exact ⟨by simp,rfl⟩
 have hz:wd l k=0:=eV (by omega);have H:=Qh hz;have H2:=Qh hlen;clear hz hi hlen;go_in;go_wp2;go_ret;exact ⟨by simp [H.out],rfl⟩

theorem bI (w:World) (A:Option Addr) (n c:Nat) (l:List Nat) (h:Wd w A n c l) (k x:Nat) (hx:wd l k=x) (hn:n≤4398046511104) :
 Calls Tryz.prog 256 #[.slice A n c,.int .i64 (k:Nat)] w fun e w'=>e=.returned (.int .u64 (x:Nat))∧w=w':=by
 subst hx;have:=uN w A n c l h (k:Nat) (by omega) hn;simpa using this

theorem ii (w:World) (b:Bool) (A:Option Addr) (n c:Nat) (l:List Nat) (h:Wd w A n c l) (hn:n≤1099511627776) :
 Calls Tryz.prog 248 #[.agg #[.bool b,.slice A n c]] w (av w (.bool (WD.ok ⟨b,l⟩))):=by
 have HL:=Qh h.2.1;by_cases h0:n=0
 ·subst h0
  have hl:l=[]:=List.eq_nil_of_length_eq_zero HL.out.symm;have HE:=Qh (show WD.ok ⟨b,l⟩=!b by unfold WD.ok;simp [hl]);clear hl;go_in;go_wp2;go_ret;exact bj HE.out.symm ((Below.refl _ _).alloc Qr _)
 obtain ⟨g,o,rfl,hgl,hc⟩:=h.at2 (by omega);have hck:=hc (n - 1) (by omega);have hlt:=h.lt (n - 1)
 have he:WD.ok ⟨b,l⟩=!decide (wd l (n - 1)=0):=by
  have hne:l≠[]:=by rintro rfl;have:=HL.out;simp at this;omega
  unfold WD.ok;simp only [if_neg hne,← HL.out];by_cases hz:wd l (n - 1)=0 <;> simp [hz]
 have HE:=Qh he;clear he;have hn0:((n:Int) == 0)=false:=by simp;omega
 have hp:0 < n:=by omega
 clear hc h0;generalize hgx:wd l (n - 1)=x at *;clear hgx;go_in;go_wp2;go_ret;refine bj ?_ ((Below.refl _ _).alloc Qr _);rw [HE.out];by_cases hz:x=0 <;> simp [hz]

theorem dy (w:World) (b:Bool) (A:Option Addr) (n c:Nat) (l:List Nat) (h:Wd w A n c l) (hn:n≤1099511627776) :
 Calls Tryz.prog 215 #[.agg #[.bool b,.slice A n c]] w (fw w (WD.m ⟨b,l⟩)):=by
 cases hk:WD.ok ⟨b,l⟩
 ·have HK:=Qh hk
  go_in;go_wp2_with (go_at_call 248;refine (ii _ b A n c l (h.keep ((Kp.refl _).alloc _)) hn).mono ?_;rintro e w1 ⟨rfl,hb⟩);go_ret;refine ⟨none,0,0,rfl,?_,((Below.refl _ _).alloc Qr _).trans (hb.mono (by simp))⟩;unfold WD.m;rw [HK.out];exact Wd.nil_ _
 have HK:=Qh hk;go_in;go_wp2_with (go_at_call 248;refine (ii _ b A n c l (h.keep ((Kp.refl _).alloc _)) hn).mono ?_;rintro e w1 ⟨rfl,hb⟩;obtain ⟨hc,hf⟩:=ct hb);go_ret;refine ⟨A,n,c,rfl,?_,((Below.refl _ _).alloc Qr _).trans (hb.mono (by simp))⟩;unfold WD.m;rw [HK.out];exact h.keep (((Kp.refl _).alloc _).below hb)

theorem dS (w:World) (b:Bool) (A:Option Addr) (n c:Nat) (l:List Nat) (h:Wd w A n c l) (hn:n≤1099511627776) :
 Calls Tryz.prog 222 #[.agg #[.bool b,.slice A n c]] w (av w (.bool (WD.s ⟨b,l⟩))):=by
 cases hk:WD.ok ⟨b,l⟩
 ·have HK:=Qh hk
  go_in;go_wp2_with (go_at_call 248;refine (ii _ b A n c l (h.keep ((Kp.refl _).alloc _)) hn).mono ?_;rintro e w1 ⟨rfl,hb⟩);go_ret;refine bj ?_ (((Below.refl _ _).alloc Qr _).trans (hb.mono (by simp)));unfold WD.s;rw [HK.out];rfl
 have HK:=Qh hk;go_in;go_wp2_with (go_at_call 248;refine (ii _ b A n c l (h.keep ((Kp.refl _).alloc _)) hn).mono ?_;rintro e w1 ⟨rfl,hb⟩;obtain ⟨hc,hf⟩:=ct hb);go_ret;refine bj ?_ (((Below.refl _ _).alloc Qr _).trans (hb.mono (by simp)));unfold WD.s;rw [HK.out];simp


theorem Wd.cut_ {w:World}{g o n c:Nat}{l:List Nat}(h:Wd w (some ⟨g,o,none⟩) n c l) {j:Nat}(hj:j≤n):Wd w (some ⟨g,o,none⟩) j c (l.take j):=by
 have hl:=h.2.1;refine ⟨Wds.take h.1 j,by rw [List.length_take];omega,Nat.le_trans hj h.2.2.1,fun h0=>?_⟩;obtain ⟨g',o',cur,fr,e,hb,hc⟩:=h.2.2.2 (by omega);refine ⟨g',o',cur,fr,e,hb,fun i hi=>?_⟩;rw [hc i (by omega)];have:wd (l.take j) i=wd l i:=by simp [wd,List.getD,hi]
 rw [this]
theorem ka {P:Program}(w:World) (t ty e:TypeId) (i:TypeInfo) (ht:P.underlying t=some (.slice e)) (hi:P.info? e=some i) (g:Nat) (A:Option Addr) (c:Nat) :
 (Builtin.append_ #[t,t] ty #[.slice (some ⟨g,0,none⟩) 0 0,.slice A 0 c]).run P w=.ok (.slice (some ⟨g,0,none⟩) 0 0) w:=by
 cases A <;> simp [Builtin.append_,run_underlying ht,sizeOf,typeInfo,hi,Builtin.lenOf,Builtin.firstCells,loadCells,loadCellsFrom,storeCells]
theorem eK {P:Program}{w:World}{ops:Array Oper}{rest:List Oper}{o:Oper}{a:Act}{Q:Exit→Act→World→Prop}(hgd:o.guard=none) (s x:Operand) (t:TypeId)
 (ho:o.op=.call { callee:=.builtin .append,args:=#[s,x],argTypes:=#[t,t] })
 (e:TypeId) (i:TypeInfo) (ht:P.underlying t=some (.slice e)) (hi:P.info? e=some i)
 (g:Nat) (A:Option Addr) (c:Nat) (hs:a.eval s=.slice (some ⟨g,0,none⟩) 0 0) (hx:a.eval x=.slice A 0 c)
 (h:wpList P ops Q rest (a.put o.dst (.slice (some ⟨g,0,none⟩) 0 0)) w):wpList P ops Q (o :: rest) a w:=by
 refine wpList_plain hgd fun K hK=>?_
 have hrun:=ka (P:=P) w t o.type e i ht hi g A c;unfold Oper.wp;simp [execOp,ho,resolve,invoke,builtin,hs,hx,hrun,Result.andThen];exact hK _ _ h
theorem eX (w:World) (A:Option Addr) (n c:Nat) (l:List Nat) (h:Wd w A n c l) (hn:n≤4398046511104) :
 Calls Tryz.prog 221 #[.slice A n c] w (fw w (ap (val l))):=by
 have HL:=Qh h.2.1;have hcap:n≤c:=h.2.2.1;obtain ⟨i0,hi0,hz0,hz1,hz2⟩:=info_parts dY;by_cases h0:n=0
 ·subst h0
  have HE:=Qh (show ap (val l)=[] by rw [List.eq_nil_of_length_eq_zero HL.out.symm];exact aB);clear h hn;go_in;go_wp2_with (at_builtin;refine eK rfl _ _ _ rfl 58 i0 Tryz.underlying63 hi0 _ _ _ rfl rfl ?_);go_loop [3] (fun v=>v=.slice (some ⟨w.heap.size,0,none⟩) 0 0) (fun _=>0)
  case atStart=>rfl
  case round =>
   subst hrel;go_wp2;go_ret;refine ⟨_,_,_,rfl,?_,(Below.refl _ _).alloc Qr _⟩;rw [HE.out];exact ⟨by simp [Wds],rfl,Qr,fun h=>absurd h (by omega)⟩
 obtain ⟨g,o,rfl,hc⟩:=h.at_ (by omega);clear hc;have hp:0 < n:=by omega
 have hown:=World.ownsRow_lit (e:=58) (size:=1) w #[] 0 Qr (by simp [maxLen]) rfl;have hnews:=(h.keep ((Kp.refl w).alloc (.cells #[] 58))).news (by omega) Qr;have hnl:(words (l.take n)).length=n * 1:=by rw [dd,List.length_take,← HL.out];omega
 have HO:=Qh hown;have HN:=Qh hnews;have HNL:=Qh hnl;have HW:=Qh h.1;clear hown hnews hnl h h0;go_in;go_wp2_with (at_builtin;refine wpList_append_lies _ rfl _ _ _ rfl w.heap.size 58 i0 (.int .u32 0) 1 4 Tryz.underlying63 hi0 hz0 hz1 hz2 rfl (by omega) _ 0 [] rfl HO.out ⟨g,o,none⟩ n c (words (l.take n)) rfl HNL.out HN.out (fL _) (by omega) (by unfold maxLen;omega) (by omega) (by simp) (w.heap.size+1) (by simp) ?_;intro gx cap w1 hown1 hgrow hat hlt1);simp only [Nat.zero_add,List.nil_append] at hown1;have hw1:=Wd.of_own hown1 (Wds.take HW.out n);rw [List.take_of_length_le (Nat.le_of_eq HL.out.symm)] at hw1;have hbel:=((Below.refl w.heap.size w).alloc Qr (.cells #[] 58)).grown hgrow (by simp) (fun b hb=>Nat.le_of_eq (Option.some.inj hb));have HW1:=Qh hw1;have HB:=Qh hbel;have hcap1:n≤cap:=hw1.2.2.1;clear hown1 hgrow hat hw1 hbel HO HN HNL;go_loop [3] (fun v=>∃ k:Nat,k≤n∧v=.slice (some ⟨gx,0,none⟩) k cap∧rA l k) (fun v=>match v with | .slice _ k _=>k | _=>0)
 case atStart=>exact ⟨n,Qr,by simp,fun i hi=>eV (by rw [← HL.out];exact hi)⟩
 case round =>
  obtain ⟨k,hk,rfl,ht⟩:=hrel;by_cases h0:k=0
  ·subst h0
   have HT:=Qh ht;clear ht;go_wp2;go_ret;refine ⟨_,_,_,rfl,?_,HB.out⟩;have:=bM HW.out (Nat.zero_le _) HT.out (.inl rfl);rw [this];exact HW1.out.cut_ (Nat.zero_le _)
  have hkp:0 < k:=by omega
  obtain ⟨g',o',e,hc⟩:=HW1.out.at_ (by omega);injection e with e;injection e with e1 e2;subst e1 e2;have hck:=hc (k - 1) (by omega);rw [Nat.zero_add] at hck;have hlt:=HW1.out.lt (k - 1);have HT:=Qh ht;generalize hx:wd l (k - 1)=x at *;have HX:=Qh hx;clear hc h0 ht hx;by_cases hz:x=0
  ·subst hz
   go_wp2;go_round
   case rel=>exact ⟨k - 1,by omega,rfl,fun i hi=>by
    by_cases he:i=k - 1
    ·subst he;exact HX.out
    exact HT.out i (by omega)⟩
   case measure=>dsimp only;omega
  have hz':((x:Int) == 0)=false:=by simp;omega
  have HZ:=Qh hz;clear hz;go_wp2;go_ret;have hd:=bM HW.out (by rw [← HL.out];exact hk) HT.out (.inr (by rw [HX.out];exact HZ.out));refine ⟨_,_,_,rfl,?_,HB.out⟩;rw [hd];exact HW1.out.cut_ hk

theorem jx (w:World) (b:Bool) (A:Option Addr) (n c:Nat) (l:List Nat) (h:Wd w A n c l) (hn:n≤1099511627776) :
 Calls Tryz.prog 213 #[.bool b,.slice A n c] w (iR w (wh (sgn b (val l)))):=by
 rw [uh];go_in;go_wp2_with fail;(with_reducible refine (eX _ A n c l ?_ ?_).mono ?_);(exact h.keep ((Kp.refl _).alloc _));(omega);rintro e w1 ⟨A1,n1,c1,rfl,h1,hb⟩;have q:Below w.heap.size w w1:=((Below.refl _ _).alloc Qr _).trans (hb.mono (by simp));have x:Blk w1 w.heap.size 194 #[.bool false,.slice none 0 0]:=(ah w _ _ rfl).below hb (by simp);have c0:w1.cell? ⟨w.heap.size,0,none⟩=some (.bool false):=x.cell 0;have c1':w1.cell? ⟨w.heap.size,1,none⟩=some (.slice none 0 0):=x.cell 1;have f0:=x.f2;have HL:=Qh h1.2.1;clear hb h;by_cases h0:n1=0
 ·subst h0
  have HE:=Qh (List.eq_nil_of_length_eq_zero HL.out.symm);have H1:=Qh h1;clear h1;go_wp2;refine bodyPost_ret (v:=.agg #[.bool false,.slice none 0 0]) (by simp [results,Tryz.results213,go_sem, *] <;> trivial) rfl ?_;rw [HE.out];exact ⟨none,0,0,by simp,Wd.nil_ _,(q.setCell (p:=⟨w.heap.size,0,none⟩) Qr _).setCell (p:=⟨w.heap.size,1,none⟩) Qr _⟩
 have e0:((n1:Int) == 0)=false:=by simp;omega
 have hp:0 < n1:=by omega
 have H1:=Qh h1;clear h1 h0;go_wp2;refine bodyPost_ret (v:=.agg #[.bool b,.slice A1 n1 c1]) (by simp [results,Tryz.results213,go_sem, *] <;> trivial) rfl ?_;refine ⟨A1,n1,c1,?_,H1.out.keep (kp2 x.box (by decide) _ _ _ _),(q.setCell (p:=⟨w.heap.size,0,none⟩) Qr _).setCell (p:=⟨w.heap.size,1,none⟩) Qr _⟩;have:decide (0 < (ap (val l)).length)=true:=by rw [← HL.out];simp [hp]
 rw [this];simp
theorem er (w:World) (A n c l) (wa:Wd w A n c l) (hn:n≤1099511627776) (A' n' c' l') (wb:Wd w A' n' c' l') (hn':n'≤1099511627776) :
 Calls Tryz.prog 244 #[.slice A n c,.slice A' n' c'] w (av w (.int .i64 (bA (val l) (val l')))):=by
 have HL:=Qh wa.2.1;have HL':=Qh wb.2.1;obtain ⟨M,hM⟩:∃ M,M=max n n':=⟨_,rfl⟩;have HM:=Qh hM;have hM3:M≤1099511627776:=by omega
 clear hM;go_in;go_wp2
 all_goals
  go_loop [5] (fun v=>∃ k:Nat,k≤M∧v=.int .i64 ((k:Int) - 1)∧Ag l l' k) (fun v=>(intOf v+1).toNat)
  case atStart=>exact ⟨M,Qr,by have:=HM.out;rw [show (M:Int) - 1=_ from rfl];congr 1;omega,fun j hj=>by rw [eV (by rw [← HL.out];have:=HM.out;omega),eV (by rw [← HL'.out];have:=HM.out;omega)]⟩
  case round =>
   obtain ⟨k,hk,rfl,hI⟩:=hrel;by_cases h0:k=0
   ·subst h0
    have HE:=Qh (show bA (val l) (val l')=0 by unfold bA;rw [mM (fun j=>hI j (Nat.zero_le _))];simp);clear hI;go_wp2;go_ret;exact bV HE.out.symm (Below.refl _ _)
   obtain ⟨j,rfl⟩:∃ j,k=j+1:=⟨k - 1,by omega⟩;obtain ⟨x,y,hx,hy⟩:∃ x y,wd l j=x∧wd l' j=y:=⟨_,_,rfl,rfl⟩;have HX:=Qh hx;have HY:=Qh hy;have HI:=Qh hI;have ej:(((j+1:Nat):Int) - 1)=(j:Int):=by omega
   rw [ej];clear hx hy hI h0 ej;rcases Nat.lt_trichotomy x y with hxy | rfl | hxy
   ·have hne:((x:Int) != (y:Int))=true:=by rw [bne_iff_ne];omega
    have HE:=Qh (show bA (val l) (val l')=-1 by unfold bA;rw [if_pos (gZ wa.1 (i:=j) (by rw [HX.out,HY.out];exact hxy) (fun i hi=>HI.out i (by omega)))])
    go_wp2_with (first
     | (go_at_call 256;(with_reducible refine (bI _ A n c l ?_ j x HX.out (by omega)).mono ?_);exact wa;rintro e w' ⟨rfl,rfl⟩)
     | (go_at_call 256;(with_reducible refine (bI _ A' n' c' l' ?_ j y HY.out (by omega)).mono ?_);exact wb;rintro e w' ⟨rfl,rfl⟩))
    go_ret;exact bV HE.out.symm (Below.refl _ _)
   ·go_wp2_with (first
     | (go_at_call 256;(with_reducible refine (bI _ A n c l ?_ j x HX.out (by omega)).mono ?_);exact wa;rintro e w' ⟨rfl,rfl⟩)
     | (go_at_call 256;(with_reducible refine (bI _ A' n' c' l' ?_ j x HY.out (by omega)).mono ?_);exact wb;rintro e w' ⟨rfl,rfl⟩))
    go_round
    case rel=>exact ⟨j,by omega,by go_num,fun i hi=>by
     by_cases hij:i=j
     ·subst hij;rw [HX.out,HY.out]
     exact HI.out i (by omega)⟩
    case measure=>simp [intOf]
   have hne:((x:Int) != (y:Int))=true:=by rw [bne_iff_ne];omega
   have HE:=Qh (show bA (val l) (val l')=1 by
    have:=gZ wb.1 (i:=j) (by rw [HX.out,HY.out];exact hxy) (fun i hi=>(HI.out i (by omega)).symm)
    unfold bA;rw [if_neg (by omega),if_neg (by omega)])
   go_wp2_with (first
    | (go_at_call 256;(with_reducible refine (bI _ A n c l ?_ j x HX.out (by omega)).mono ?_);exact wa;rintro e w' ⟨rfl,rfl⟩)
    | (go_at_call 256;(with_reducible refine (bI _ A' n' c' l' ?_ j y HY.out (by omega)).mono ?_);exact wb;rintro e w' ⟨rfl,rfl⟩))
   go_ret;exact bV HE.out.symm (Below.refl _ _)

theorem qE {L:List Nat}{d i:Nat}(h:i < L.length):wd (L ++ [d]) i=wd L i:=by
 simp [wd,List.getD,List.getElem?_append_left h]
theorem xg {L:List Nat}{d:Nat}:wd (L ++ [d]) L.length=d:=by simp [wd,List.getD]
theorem nZ {L:List Nat}{d k:Nat}(h:L.length=k):Sm (wd (L ++ [d])) (k+1)=Sm (wd L) k+d * 4294967296 ^ k:=by
 subst h;rw [Sm,xg,dX (fun i hi=>qE hi)]
theorem ln {L:List Nat}{d:Nat}(h:Wds L) (hd:d < 4294967296):Wds (L ++ [d]):=by
 intro x hx;rcases List.mem_append.1 hx with h1 | h1
 ·exact h x h1
 simp at h1;omega
theorem jd (L:List Nat) (d:Nat):words (L ++ [d])=words L ++ [.int .u32 (d:Nat)]:=by simp [words]
theorem fO {w:World}{base:Nat}{e:TypeId}{size:Nat}{v:Value}{n:Nat}{xs:List Value}(h:w.ownsRow base e size v n xs):∀ b,v.ownBlock=some b→base≤b:=by
 intro b hb;rcases h.2 with ⟨rfl,_⟩ | ⟨g,c,cur,rfl,h1,_⟩
 ·simp [Value.ownBlock] at hb
 simp [Value.ownBlock] at hb;omega
theorem uO (w:World) (A n c l) (wa:Wd w A n c l) (hn:n≤1099511627776) (A' n' c' l') (wb:Wd w A' n' c' l') (hn':n'≤1099511627776) (hle:n≤n') :
 Calls Tryz.prog 247 #[.slice A n c,.slice A' n' c'] w (fw w (ap (val l+val l'))):=by
 have HL:=Qh wa.2.1;have HL':=Qh wb.2.1;obtain ⟨i0,hi0,hz0,hz1,hz2⟩:=info_parts dY;go_in;go_wp2_with fail;go_loopw [5,6,15] (fun ov cv iv wr=>∃ (k cr:Nat) (L:List Nat),k≤n'+1∧iv=.int .i64 (k:Nat)∧cv=.int .u64 (cr:Nat)∧cr≤1∧L.length=k∧uq l l' L k cr∧wr.ownsRow w.heap.size 58 1 ov k (words L)∧Below w.heap.size w wr) (fun _ _ iv _=>n'+1 - (intOf iv).toNat)
 case atStart=>exact ⟨0,0,[],Nat.zero_le _,rfl,rfl,by omega,rfl,⟨by simp [Wds],by simp [Sm]⟩,⟨rfl,.inl ⟨rfl,rfl⟩⟩,aa _⟩
 case round =>
  obtain ⟨k,cr,L,hk,rfl,rfl,hcr,hLk,hI,hown,hbel⟩:=hrel;have hKp:=Qh ((Kp.refl w).below hbel);have HI:=Qh hI;have HLk:=Qh hLk;have HO:=Qh hown;clear hI hLk hown;by_cases hkM:k < n'+1
  ·obtain ⟨x,y,hx,hy⟩:∃ x y,wd l k=x∧wd l' k=y:=⟨_,_,rfl,rfl⟩
   have hx1:x < 4294967296:=by rw [← hx];exact wa.lt k
   have hy1:y < 4294967296:=by rw [← hy];exact wb.lt k
   have HX:=Qh hx;have HY:=Qh hy;have hsz:=hbel.size;have HD:=Qh (ie (x:=x) (y:=y) HI.out.2);clear hx hy
   go_wp2_with (first
    | (go_at_call 256;(with_reducible refine (bI _ A n c l ?_ k x HX.out (by omega)).mono ?_);exact wa.keep hKp.out;rintro e w' ⟨rfl,rfl⟩)
    | (go_at_call 256;(with_reducible refine (bI _ A' n' c' l' ?_ k y HY.out (by omega)).mono ?_);exact wb.keep hKp.out;rintro e w' ⟨rfl,rfl⟩)
    | (at_builtin;refine wpList_append_lies _ rfl _ _ _ rfl w.heap.size 58 i0 (.int .u32 0) 1 4 Tryz.underlying63 hi0 hz0 hz1 hz2 rfl (by omega) _ k (words L) rfl (HO.out.alloc _) ⟨wr.heap.size,0,none⟩ 1 1 [_] rfl rfl (World.news_of_block (heap_alloc_new wr _)) (by simp [Value.oneCell']) (by omega) (by unfold maxLen;omega) (by omega) (by simp;omega) (wr.heap.size+1) (by simp) ?_;intro gx cap w1 hown1 hgrow hat hlt1))
   go_roundw
   case rel =>
    refine ⟨k+1,(cr+x+y) / 4294967296,L ++ [(cr+x+y) % 4294967296],by omega,by go_num,by congr 1;omega,by omega,by simp [HLk.out],⟨ln HI.out.1 (Nat.mod_lt _ (by omega)),?_⟩,?_,(hbel.alloc hbel.size _).grown hgrow (by simp;omega) (fO HO.out)⟩
    ·rw [nZ HLk.out,Sm,Sm,HX.out,HY.out,Nat.pow_succ]
     exact HD.out
    have e:(Value.int .u32 (((x:Int)+y+cr) % 4294967296))=.int .u32 (((cr+x+y) % 4294967296:Nat):Int):=by congr 1;omega
    rw [jd,← e];exact hown1
   case measure=>simp [intOf];omega
  have hkk:k=n'+1:=by omega
  have hv:val L=val l+val l':=by
   have h1:=HI.out.2;have h2:=cT wa.1;have h3:=cT wb.1;rw [aX L (by rw [HLk.out];exact Qr),aX l (by rw [← HL.out];omega),aX l' (by rw [← HL'.out];omega)] at h1;have h4:4294967296 ^ l.length≤4294967296 ^ (k - 1):=Nat.pow_le_pow_right (by omega) (by rw [← HL.out];omega);have h5:4294967296 ^ l'.length≤4294967296 ^ (k - 1):=Nat.pow_le_pow_right (by omega) (by rw [← HL'.out];omega);have h6:4294967296 ^ k=4294967296 ^ (k - 1) * 4294967296:=by rw [← Nat.pow_succ];congr 1;omega
   rcases (show cr=0∨cr=1 by omega) with rfl | rfl
   ·omega
   omega
  have HV:=Qh hv;obtain ⟨gx,cap,rfl,_,_⟩:=HO.out.form (by omega);clear hv hkk;go_wp2_with fail;(with_reducible refine (eX _ _ k cap L ?_ ?_).mono ?_);(exact Wd.of_own HO.out HI.out.1);(omega);rintro e w1 ⟨A1,n1,c1,rfl,h1,hb1⟩;go_wp2;go_ret;rw [HV.out] at h1;exact ⟨_,_,_,rfl,h1,hbel.trans (hb1.mono hbel.size)⟩
theorem uP (w:World) (A n c l) (wa:Wd w A n c l) (hn:n≤1099511627776) (A' n' c' l') (wb:Wd w A' n' c' l') (hn':n'≤1099511627776) (hle:n' < n) :
 Calls Tryz.prog 247 #[.slice A n c,.slice A' n' c'] w (fw w (ap (val l+val l'))):=by
 have HL:=Qh wa.2.1;have HL':=Qh wb.2.1;obtain ⟨i0,hi0,hz0,hz1,hz2⟩:=info_parts dY;go_in;go_wp2_with fail;go_loopw [5,6,15] (fun ov cv iv wr=>∃ (k cr:Nat) (L:List Nat),k≤n+1∧iv=.int .i64 (k:Nat)∧cv=.int .u64 (cr:Nat)∧cr≤1∧L.length=k∧uq l l' L k cr∧wr.ownsRow w.heap.size 58 1 ov k (words L)∧Below w.heap.size w wr) (fun _ _ iv _=>n+1 - (intOf iv).toNat)
 case atStart=>exact ⟨0,0,[],Nat.zero_le _,rfl,rfl,by omega,rfl,⟨by simp [Wds],by simp [Sm]⟩,⟨rfl,.inl ⟨rfl,rfl⟩⟩,aa _⟩
 case round =>
  obtain ⟨k,cr,L,hk,rfl,rfl,hcr,hLk,hI,hown,hbel⟩:=hrel;have hKp:=Qh ((Kp.refl w).below hbel);have HI:=Qh hI;have HLk:=Qh hLk;have HO:=Qh hown;clear hI hLk hown;by_cases hkM:k < n+1
  ·obtain ⟨x,y,hx,hy⟩:∃ x y,wd l k=x∧wd l' k=y:=⟨_,_,rfl,rfl⟩
   have hx1:x < 4294967296:=by rw [← hx];exact wa.lt k
   have hy1:y < 4294967296:=by rw [← hy];exact wb.lt k
   have HX:=Qh hx;have HY:=Qh hy;have hsz:=hbel.size;have HD:=Qh (ie (x:=x) (y:=y) HI.out.2);clear hx hy
   go_wp2_with (first
    | (go_at_call 256;(with_reducible refine (bI _ A n c l ?_ k x HX.out (by omega)).mono ?_);exact wa.keep hKp.out;rintro e w' ⟨rfl,rfl⟩)
    | (go_at_call 256;(with_reducible refine (bI _ A' n' c' l' ?_ k y HY.out (by omega)).mono ?_);exact wb.keep hKp.out;rintro e w' ⟨rfl,rfl⟩)
    | (at_builtin;refine wpList_append_lies _ rfl _ _ _ rfl w.heap.size 58 i0 (.int .u32 0) 1 4 Tryz.underlying63 hi0 hz0 hz1 hz2 rfl (by omega) _ k (words L) rfl (HO.out.alloc _) ⟨wr.heap.size,0,none⟩ 1 1 [_] rfl rfl (World.news_of_block (heap_alloc_new wr _)) (by simp [Value.oneCell']) (by omega) (by unfold maxLen;omega) (by omega) (by simp;omega) (wr.heap.size+1) (by simp) ?_;intro gx cap w1 hown1 hgrow hat hlt1))
   go_roundw
   case rel =>
    refine ⟨k+1,(cr+x+y) / 4294967296,L ++ [(cr+x+y) % 4294967296],by omega,by go_num,by congr 1;omega,by omega,by simp [HLk.out],⟨ln HI.out.1 (Nat.mod_lt _ (by omega)),?_⟩,?_,(hbel.alloc hbel.size _).grown hgrow (by simp;omega) (fO HO.out)⟩
    ·rw [nZ HLk.out,Sm,Sm,HX.out,HY.out,Nat.pow_succ]
     exact HD.out
    have e:(Value.int .u32 (((x:Int)+y+cr) % 4294967296))=.int .u32 (((cr+x+y) % 4294967296:Nat):Int):=by congr 1;omega
    rw [jd,← e];exact hown1
   case measure=>simp [intOf];omega
  have hkk:k=n+1:=by omega
  have hv:val L=val l+val l':=by
   have h1:=HI.out.2;have h2:=cT wa.1;have h3:=cT wb.1;rw [aX L (by rw [HLk.out];exact Qr),aX l (by rw [← HL.out];omega),aX l' (by rw [← HL'.out];omega)] at h1;have h4:4294967296 ^ l.length≤4294967296 ^ (k - 1):=Nat.pow_le_pow_right (by omega) (by rw [← HL.out];omega);have h5:4294967296 ^ l'.length≤4294967296 ^ (k - 1):=Nat.pow_le_pow_right (by omega) (by rw [← HL'.out];omega);have h6:4294967296 ^ k=4294967296 ^ (k - 1) * 4294967296:=by rw [← Nat.pow_succ];congr 1;omega
   rcases (show cr=0∨cr=1 by omega) with rfl | rfl
   ·omega
   omega
  have HV:=Qh hv;obtain ⟨gx,cap,rfl,_,_⟩:=HO.out.form (by omega);clear hv hkk;go_wp2_with fail;(with_reducible refine (eX _ _ k cap L ?_ ?_).mono ?_);(exact Wd.of_own HO.out HI.out.1);(omega);rintro e w1 ⟨A1,n1,c1,rfl,h1,hb1⟩;go_wp2;go_ret;rw [HV.out] at h1;exact ⟨_,_,_,rfl,h1,hbel.trans (hb1.mono hbel.size)⟩
theorem lp (w:World) (A n c l) (wa:Wd w A n c l) (hn:n≤1099511627776) (A' n' c' l') (wb:Wd w A' n' c' l') (hn':n'≤1099511627776) :
 Calls Tryz.prog 247 #[.slice A n c,.slice A' n' c'] w (fw w (ap (val l+val l'))):=by
 rcases Nat.lt_or_ge n' n with h | h
 ·exact uP w A n c l wa hn A' n' c' l' wb hn' h
 exact uO w A n c l wa hn A' n' c' l' wb hn' h

theorem zv {w:World}{base k:Nat}{v:Value}{L:List Nat}(h:w.ownsRow base 58 1 v k (words L)) (hL:L.length=k) (hw:Wds L):∃ B cap,v=.slice B k cap∧Wd w B k cap L:=by
 rcases Nat.eq_zero_or_pos k with h0 | h0
 ·have:L=[]:=List.eq_nil_of_length_eq_zero (by rw [hL,h0])
  subst this h0;rcases h.2 with ⟨e,_⟩ | ⟨gx,cap,cur,e,_⟩
  ·exact ⟨none,0,e,Wd.nil_ _⟩
  exact ⟨_,cap,e,Wd.of_own (e ▸ h) (by simp [Wds])⟩
 obtain ⟨gx,cap,e,_,_⟩:=h.form h0;exact ⟨_,cap,e,Wd.of_own (e ▸ h) hw⟩
theorem mX (w:World) (A n c l) (wa:Wd w A n c l) (hn:n≤1099511627776) (A' n' c' l') (wb:Wd w A' n' c' l') (hn':n'≤n) (hv:val l'≤val l) :
 Calls Tryz.prog 255 #[.slice A n c,.slice A' n' c'] w (fw w (ap (val l - val l'))):=by
 have HL:=Qh wa.2.1;have HL':=Qh wb.2.1;have HV:=Qh hv;obtain ⟨i0,hi0,hz0,hz1,hz2⟩:=info_parts dY;clear hv;go_in;go_wp2_with fail;go_loopw [5,6,11] (fun ov cv iv wr=>∃ (k br:Nat) (L:List Nat),k≤n∧iv=.int .i64 (k:Nat)∧cv=.int .u64 (br:Nat)∧br≤1∧L.length=k∧ut l l' L k br∧wr.ownsRow w.heap.size 58 1 ov k (words L)∧Below w.heap.size w wr) (fun _ _ iv _=>n - (intOf iv).toNat)
 case atStart=>exact ⟨0,0,[],Nat.zero_le _,rfl,rfl,by omega,rfl,⟨by simp [Wds],by simp [Sm]⟩,⟨rfl,.inl ⟨rfl,rfl⟩⟩,aa _⟩
 case round =>
  obtain ⟨k,br,L,hk,rfl,rfl,hbr,hLk,hI,hown,hbel⟩:=hrel;have hKp:=Qh ((Kp.refl w).below hbel);have HI:=Qh hI;have HLk:=Qh hLk;have HO:=Qh hown;clear hI hLk hown;by_cases hkM:k < n
  ·obtain ⟨x,y,hx,hy⟩:∃ x y,wd l k=x∧wd l' k=y:=⟨_,_,rfl,rfl⟩
   have hx1:x < 4294967296:=by rw [← hx];exact wa.lt k
   have hy1:y < 4294967296:=by rw [← hy];exact wb.lt k
   have HX:=Qh hx;have HY:=Qh hy;have hsz:=hbel.size;clear hx hy
   go_wp2_with (first
    | (go_at_call 256;(with_reducible refine (bI _ A n c l ?_ k x HX.out (by omega)).mono ?_);exact wa.keep hKp.out;rintro e w' ⟨rfl,rfl⟩)
    | (go_at_call 256;(with_reducible refine (bI _ A' n' c' l' ?_ k y HY.out (by omega)).mono ?_);exact wb.keep hKp.out;rintro e w' ⟨rfl,rfl⟩)
    | (at_builtin;refine wpList_append_lies _ rfl _ _ _ rfl w.heap.size 58 i0 (.int .u32 0) 1 4 Tryz.underlying63 hi0 hz0 hz1 hz2 rfl (by omega) _ k (words L) rfl (HO.out.alloc _) ⟨wr.heap.size,0,none⟩ 1 1 [_] rfl rfl (World.news_of_block (heap_alloc_new wr _)) (by simp [Value.oneCell']) (by omega) (by unfold maxLen;omega) (by omega) (by simp;omega) (wr.heap.size+1) (by simp) ?_;intro gx cap w1 hown1 hgrow hat hlt1))
   go_roundw
   case rel =>
    refine ⟨k+1,1 - (4294967296+x - y - br) / 4294967296,L ++ [(4294967296+x - y - br) % 4294967296],by omega,by go_num,by congr 1;omega,by omega,by simp [HLk.out],⟨ln HI.out.1 (Nat.mod_lt _ (by omega)),?_⟩,?_,(hbel.alloc hbel.size _).grown hgrow (by simp;omega) (fO HO.out)⟩
    ·rw [nZ HLk.out,Sm,Sm,HX.out,HY.out,Nat.pow_succ]
     exact j6 HI.out.2 (by omega)
    have e:(Value.int .u32 ((4294967296+(x:Int) - y - br) % 4294967296))=.int .u32 (((4294967296+x - y - br) % 4294967296:Nat):Int):=by congr 1;omega
    rw [jd,← e];exact hown1
   case measure=>simp [intOf];omega
  have hkk:k=n:=by omega
  subst hkk
  have hv2:val L=val l - val l':=by
   have h1:=HI.out.2;have h2:=cT HI.out.1;have h3:=HV.out;rw [HLk.out] at h2;rw [aX L (by rw [HLk.out];exact Qr),aX l (by rw [← HL.out];omega),aX l' (by rw [← HL'.out];omega)] at h1;rcases (show br=0∨br=1 by omega) with rfl | rfl
   ·omega
   omega
  have HV2:=Qh hv2;clear hv2;have hf:=zv HO.out HLk.out HI.out.1;obtain ⟨B,cap,rfl,hw⟩:=hf;have HW:=Qh hw;clear hw;go_wp2_with fail;(with_reducible refine (eX _ _ k cap L ?_ ?_).mono ?_);(exact HW.out);(omega);rintro e w1 ⟨A1,n1,c1,rfl,h1,hb1⟩;go_wp2;go_ret;rw [HV2.out] at h1;exact ⟨_,_,_,rfl,h1,hbel.trans (hb1.mono hbel.size)⟩
theorem dz (w:World) (b:Bool) (A:Option Addr) (n c:Nat) (l:List Nat) (z:Int) (h:Wd w A n c l) (hn:n≤1099511627776) (hz:sgn b (val l)=z) :
 Calls Tryz.prog 213 #[.bool b,.slice A n c] w (iR w (wh z)):=by subst hz;exact jx w b A n c l h hn
theorem kw (w:World) (A n c l) (wa:Wd w A n c l) (hn:n≤1099511627776) (A' n' c' l') (wb:Wd w A' n' c' l') (hn':n'≤1099511627776) (_:aW l) (_:aW l') :
 Calls Tryz.prog 244 #[.slice A n c,.slice A' n' c'] w (av w (.int .i64 (bA (val l) (val l')))):=er w A n c l wa hn A' n' c' l' wb hn'
theorem xh (w:World) (b:Bool) (A n c l) (wa:Wd w A n c l) (hn:n≤1099511627000) :
 Calls Tryz.prog 238 #[.agg #[.bool b,.slice A n c]] w (iR w (wh (-WD.z ⟨b,l⟩))):=by
 have HL:=Qh wa.2.1;go_in;go_wp2_with fail;have b0:Below w.heap.size w ((w.alloc (.cells #[.bool b,.slice A n c] 194)).alloc (.cells #[.bool false,.slice none 0 0] 194)):=(((Below.refl _ _).alloc Qr _).alloc (by simp) _);generalize hW0:((w.alloc (.cells #[.bool b,.slice A n c] 194)).alloc (.cells #[.bool false,.slice none 0 0] 194))=W0 at b0 ⊢;have c00:W0.cell? ⟨w.heap.size,0,none⟩=some (.bool b):=by subst hW0;simp [go_sem]
 have f00:W0.frozen? ⟨w.heap.size,0,none⟩=false:=by subst hW0;simp [go_sem]
 have c01:W0.cell? ⟨w.heap.size,1,none⟩=some (.slice A n c):=by subst hW0;simp [go_sem]
 have f01:W0.frozen? ⟨w.heap.size,1,none⟩=false:=by subst hW0;simp [go_sem]
 have c10:W0.cell? ⟨w.heap.size+1,0,none⟩=some (.bool false):=by subst hW0;simp [go_sem]
 have f10:W0.frozen? ⟨w.heap.size+1,0,none⟩=false:=by subst hW0;simp [go_sem]
 have c11:W0.cell? ⟨w.heap.size+1,1,none⟩=some (.slice none 0 0):=by subst hW0;simp [go_sem]
 have f11:W0.frozen? ⟨w.heap.size+1,1,none⟩=false:=by subst hW0;simp [go_sem]
 have x0:Box W0 w.heap.size 194:=by subst hW0;exact (bB _ _ _ (by simp)).alloc _
 have x1:Box W0 (w.heap.size+1) 194:=by subst hW0;exact bB _ _ _ (by simp)
 have hm0:iZ (w.heap.size+1) (w.heap.size+1+1) 2 W0:=by subst hW0;exact lf (by simp)
 have hs0:w.heap.size+1+1≤W0.heap.size:=by subst hW0;simp
 clear hW0;have wa:=wa.belw b0;have r0:Below W0.heap.size W0 W0:=aa _;have hRB:w.heap.size+1≤w.heap.size+1+1:=by omega
 go_region_held3 (fun w'=>Sees (w.heap.size+1) W0 w') (first | exact Sees.of (Nat.le_trans hRB hs0) (by assumption) | exact Sees.of (Nat.le_trans hRB hs0) (af (by assumption) _) | exact (Sees.set (Sees.of (Nat.le_trans hRB hs0) (by assumption)) (by simp)) | exact (Sees.set (Sees.set (Sees.of (Nat.le_trans hRB hs0) (by assumption)) (by simp)) (by simp)))
  (first
   | (go_at_call 222;(with_reducible refine (dS _ b A n c l ?_ ?_).mono ?_);(exact wa);(omega);rintro e w1 ⟨rfl,hb1⟩;replace hb1:=ak (af (aa _) 1) hb1;have r1:=ak r0 hb1;replace wa:=wa.belw hb1)
   | (go_at_call 215;(with_reducible refine (dy _ b A n c l ?_ ?_).mono ?_);(exact wa);(omega);rintro e w2 ⟨A1,n1,c1,rfl,h1,hb2⟩;have r2:=ak r1 hb2;replace wa:=wa.belw hb2)
   | (go_at_call 213;(with_reducible refine (dz _ (!WD.s ⟨b,l⟩) A1 n1 c1 (WD.m ⟨b,l⟩) (-WD.z ⟨b,l⟩) ?_ ?_ ?_).mono ?_);(exact h1);(exact Nat.le_trans (h1.m_len (by rw [← HL.out];exact hn)) (by decide));(exact (yo _).symm);rintro e w3 ⟨A2,n2,c2,rfl,h2,hb3⟩;have r3:=ak r2 hb3;replace wa:=wa.belw hb3;replace h1:=h1.belw hb3;obtain ⟨⟨sc,sf⟩,sr,sz⟩:=bm.of (by omega) hs0 hm0 r3))
 clear hRB;go_wp2_with fail;refine bodyPost_ret (v:=.agg #[.bool _,.slice A2 n2 c2]) (by simp [results,Tryz.results238,go_sem,sr];rfl) rfl ?_;have x:=x1.below r3;refine jm ?_ ?_ ?_
 ·rfl
 ·exact h2.keep (kp2 x (by decide) _ _ _ _)
 exact ((b0.trans (r3.mono b0.size)).setCell (by dsimp only;omega) _).setCell (by dsimp only;omega) _
theorem xi (w:World) (b:Bool) (A n c l) (wa:Wd w A n c l) (hn:n≤1099511627000) (b':Bool) (A' n' c' l') (wb:Wd w A' n' c' l') (hn':n'≤1099511627000) :
 Calls Tryz.prog 242 #[.agg #[.bool b,.slice A n c],.agg #[.bool b',.slice A' n' c']] w (iR w (wh (WD.z ⟨b,l⟩+WD.z ⟨b',l'⟩))):=by
 have HL:=Qh wa.2.1;have HL':=Qh wb.2.1;go_in;go_wp2_with fail;have b0:Below w.heap.size w (((w.alloc (.cells #[.bool b,.slice A n c] 194)).alloc (.cells #[.bool b',.slice A' n' c'] 194)).alloc (.cells #[.bool false,.slice none 0 0] 194)):=((((Below.refl _ _).alloc Qr _).alloc (by simp) _).alloc (by simp;omega) _);generalize hW0:(((w.alloc (.cells #[.bool b,.slice A n c] 194)).alloc (.cells #[.bool b',.slice A' n' c'] 194)).alloc (.cells #[.bool false,.slice none 0 0] 194))=W0 at b0 ⊢;have c00:W0.cell? ⟨w.heap.size,0,none⟩=some (.bool b):=by subst hW0;simp [go_sem]
 have f00:W0.frozen? ⟨w.heap.size,0,none⟩=false:=by subst hW0;simp [go_sem]
 have c01:W0.cell? ⟨w.heap.size,1,none⟩=some (.slice A n c):=by subst hW0;simp [go_sem]
 have f01:W0.frozen? ⟨w.heap.size,1,none⟩=false:=by subst hW0;simp [go_sem]
 have c10:W0.cell? ⟨w.heap.size+1,0,none⟩=some (.bool b'):=by subst hW0;simp [go_sem]
 have f10:W0.frozen? ⟨w.heap.size+1,0,none⟩=false:=by subst hW0;simp [go_sem]
 have c11:W0.cell? ⟨w.heap.size+1,1,none⟩=some (.slice A' n' c'):=by subst hW0;simp [go_sem]
 have f11:W0.frozen? ⟨w.heap.size+1,1,none⟩=false:=by subst hW0;simp [go_sem]
 have c20:W0.cell? ⟨w.heap.size+1+1,0,none⟩=some (.bool false):=by subst hW0;simp [go_sem]
 have f20:W0.frozen? ⟨w.heap.size+1+1,0,none⟩=false:=by subst hW0;simp [go_sem]
 have c21:W0.cell? ⟨w.heap.size+1+1,1,none⟩=some (.slice none 0 0):=by subst hW0;simp [go_sem]
 have f21:W0.frozen? ⟨w.heap.size+1+1,1,none⟩=false:=by subst hW0;simp [go_sem]
 have x0:Box W0 w.heap.size 194:=by subst hW0;exact ((bB _ _ _ (by simp)).alloc _).alloc _
 have x1:Box W0 (w.heap.size+1) 194:=by subst hW0;exact (bB _ _ _ (by simp)).alloc _
 have x2:Box W0 (w.heap.size+1+1) 194:=by subst hW0;exact bB _ _ _ (by simp)
 have hm0:iZ (w.heap.size+1+1) (w.heap.size+1+1+1) 2 W0:=by subst hW0;exact lf (by simp)
 have hs0:w.heap.size+1+1+1≤W0.heap.size:=by subst hW0;simp
 clear hW0;have wa:=wa.belw b0;have wb:=wb.belw b0;have r0:Below W0.heap.size W0 W0:=aa _
 go_region_held3 (fun w'=>bm (w.heap.size+1+1) (w.heap.size+1+1+1) 2 W0 w') (first | exact bm.of (by omega) hs0 hm0 (by assumption) | exact bm.of (by omega) hs0 hm0 (af (by assumption) _))
  (first
   | (go_at_call 215;(with_reducible refine (dy _ b A n c l ?_ ?_).mono ?_);(exact wa);(omega);rintro e w1 ⟨A1,n1,c1,rfl,h1,hb1⟩;replace hb1:=ak (af (aa _) 1) hb1;have r1:=ak r0 hb1;replace wa:=wa.belw hb1;replace wb:=wb.belw hb1)
   | (go_at_call 215;(with_reducible refine (dy _ b' A' n' c' l' ?_ ?_).mono ?_);(exact wb);(omega);rintro e w2 ⟨A2,n2,c2,rfl,h2,hb2⟩;have r2:=ak r1 hb2;replace wa:=wa.belw hb2;replace wb:=wb.belw hb2;replace h1:=h1.belw hb2))
 obtain ⟨⟨sc,sf⟩,sr,sz⟩:=bm.of (by omega) hs0 hm0 r2;clear sc sf sr sz;go_wp2_with fail
 go_region_held3 (fun w'=>bm (w.heap.size+1+1) (w.heap.size+1+1+1) 2 W0 w') (first | exact bm.of (by omega) hs0 hm0 (by assumption) | exact bm.of (by omega) hs0 hm0 (af (by assumption) _))
  (first
   | (go_at_call 222;(with_reducible refine (dS _ b A n c l ?_ ?_).mono ?_);(exact wa);(omega);rintro e w3 ⟨rfl,hb3⟩;replace hb3:=ak (af (aa _) 1) hb3;have r3:=ak r2 hb3;replace wa:=wa.belw hb3;replace wb:=wb.belw hb3;replace h1:=h1.belw hb3;replace h2:=h2.belw hb3)
   | (go_at_call 222;(with_reducible refine (dS _ b' A' n' c' l' ?_ ?_).mono ?_);(exact wb);(omega);rintro e w4 ⟨rfl,hb4⟩;have r4:=ak r3 hb4;replace wa:=wa.belw hb4;replace wb:=wb.belw hb4;replace h1:=h1.belw hb4;replace h2:=h2.belw hb4))
 obtain ⟨⟨sc,sf⟩,sr,sz⟩:=bm.of (by omega) hs0 hm0 r4;have hcm1:aW (WD.m ⟨b,l⟩):=WD.canon_m wa.1;have hcm2:aW (WD.m ⟨b',l'⟩):=WD.canon_m wb.1;have hn1:n1≤1099511627000:=h1.m_len (by rw [← HL.out];exact hn);have hn2:n2≤1099511627000:=h2.m_len (by rw [← HL'.out];exact hn');by_cases hs:WD.s ⟨b,l⟩=WD.s ⟨b',l'⟩
 ·have hs':(WD.s ⟨b,l⟩ == WD.s ⟨b',l'⟩)=true:=by simp [hs]
  have HZ:=Qh (zc hs);clear hs;rw [hs'];clear hs'
  go_wp2_with (first
   | (go_at_call 222;(with_reducible refine (dS _ b A n c l ?_ ?_).mono ?_);(exact wa);(omega);rintro e w5 ⟨rfl,hb5⟩;have r5:=ak r4 hb5;replace wa:=wa.belw hb5;replace wb:=wb.belw hb5;replace h1:=h1.belw hb5;replace h2:=h2.belw hb5;(try clear sc sf sr sz);obtain ⟨⟨sc,sf⟩,sr,sz⟩:=bm.of (by omega) hs0 hm0 r5)
   | (go_at_call 247;(with_reducible refine (lp _ A1 n1 c1 (WD.m ⟨b,l⟩) ?_ ?_ A2 n2 c2 (WD.m ⟨b',l'⟩) ?_ ?_).mono ?_);(exact h1);(omega);(exact h2);(omega);rintro e w6 ⟨A3,n3,c3,rfl,h3,hb6⟩;have r6:=ak r5 hb6;replace wa:=wa.belw hb6;replace wb:=wb.belw hb6;replace h1:=h1.belw hb6;replace h2:=h2.belw hb6;(try clear sc sf sr sz);obtain ⟨⟨sc,sf⟩,sr,sz⟩:=bm.of (by omega) hs0 hm0 r6)
   | (go_at_call 213;(with_reducible refine (jx _ (WD.s ⟨b,l⟩) A3 n3 c3 (ap (val (WD.m ⟨b,l⟩)+val (WD.m ⟨b',l'⟩))) ?_ ?_).mono ?_);(exact h3);(rw [h3.2.1];exact um h1 h2 hn1 hn2 (by decide));rintro e w7 ⟨A4,n4,c4,rfl,h4,hb7⟩;have r7:=ak r6 hb7;replace wa:=wa.belw hb7;replace wb:=wb.belw hb7;replace h1:=h1.belw hb7;replace h2:=h2.belw hb7;replace h3:=h3.belw hb7;(try clear sc sf sr sz);obtain ⟨⟨sc,sf⟩,sr,sz⟩:=bm.of (by omega) hs0 hm0 r7))
  rw [ag,← HZ.out] at h4;refine bodyPost_ret (v:=.agg #[.bool _,.slice A4 n4 c4]) (by simp [results,Tryz.results242,go_sem,sr];rfl) rfl ?_;have x:=x2.below r7;refine jm ?_ ?_ ?_
  ·rw [HZ.out,ag]
  ·exact h4.keep (kp2 x (by decide) _ _ _ _)
  exact ((b0.trans (r7.mono b0.size)).setCell (by dsimp only;omega) _).setCell (by dsimp only;omega) _
 have hs':(WD.s ⟨b,l⟩ == WD.s ⟨b',l'⟩)=false:=by simp [hs]
 rw [hs'];clear hs';by_cases hv:val (WD.m ⟨b',l'⟩)≤val (WD.m ⟨b,l⟩)
 ·have hd:decide ((0:Int)≤bA (val (WD.m ⟨b,l⟩)) (val (WD.m ⟨b',l'⟩)))=true:=by simp [rC,hv]
  have HZ:=Qh (ze (a:=⟨b,l⟩) (b:=⟨b',l'⟩) hs hv);have HV:=Qh hv;clear hs hv;have hlen:n2≤n1:=ul h2 h1 hcm2 hcm1 (HV.out)
  go_wp2_with (first
   | (go_at_call 244;(with_reducible refine (kw _ A1 n1 c1 (WD.m ⟨b,l⟩) ?_ ?_ A2 n2 c2 (WD.m ⟨b',l'⟩) ?_ ?_ hcm1 hcm2).mono ?_);(exact h1);(omega);(exact h2);(omega);rintro e w5 ⟨rfl,hb5⟩;have r5:=ak r4 hb5;replace wa:=wa.belw hb5;replace wb:=wb.belw hb5;replace h1:=h1.belw hb5;replace h2:=h2.belw hb5;(try clear sc sf sr sz);obtain ⟨⟨sc,sf⟩,sr,sz⟩:=bm.of (by omega) hs0 hm0 r5)
   | (go_at_call 222;(with_reducible refine (dS _ b A n c l ?_ ?_).mono ?_);(exact wa);(omega);rintro e w6 ⟨rfl,hb6⟩;have r6:=ak r5 hb6;replace wa:=wa.belw hb6;replace wb:=wb.belw hb6;replace h1:=h1.belw hb6;replace h2:=h2.belw hb6;(try clear sc sf sr sz);obtain ⟨⟨sc,sf⟩,sr,sz⟩:=bm.of (by omega) hs0 hm0 r6)
   | (go_at_call 255;(with_reducible refine (mX _ A1 n1 c1 (WD.m ⟨b,l⟩) ?_ ?_ A2 n2 c2 (WD.m ⟨b',l'⟩) ?_ ?_ ?_).mono ?_);(exact h1);(omega);(exact h2);(exact hlen);(exact HV.out);rintro e w7 ⟨A3,n3,c3,rfl,h3,hb7⟩;have r7:=ak r6 hb7;replace wa:=wa.belw hb7;replace wb:=wb.belw hb7;replace h1:=h1.belw hb7;replace h2:=h2.belw hb7;(try clear sc sf sr sz);obtain ⟨⟨sc,sf⟩,sr,sz⟩:=bm.of (by omega) hs0 hm0 r7)
   | (go_at_call 213;(with_reducible refine (jx _ (WD.s ⟨b,l⟩) A3 n3 c3 (ap (val (WD.m ⟨b,l⟩) - val (WD.m ⟨b',l'⟩))) ?_ ?_).mono ?_);(exact h3);(rw [h3.2.1];exact qs (Nat.lt_of_le_of_lt (Nat.sub_le _ _) (h1.vlt hn1)) (by decide));rintro e w8 ⟨A4,n4,c4,rfl,h4,hb8⟩;have r8:=ak r7 hb8;replace wa:=wa.belw hb8;replace wb:=wb.belw hb8;replace h1:=h1.belw hb8;replace h2:=h2.belw hb8;replace h3:=h3.belw hb8;(try clear sc sf sr sz);obtain ⟨⟨sc,sf⟩,sr,sz⟩:=bm.of (by omega) hs0 hm0 r8))
  rw [ag,← HZ.out] at h4;refine bodyPost_ret (v:=.agg #[.bool _,.slice A4 n4 c4]) (by simp [results,Tryz.results242,go_sem,sr];rfl) rfl ?_;have x:=x2.below r8;refine jm ?_ ?_ ?_
  ·rw [HZ.out,ag]
  ·exact h4.keep (kp2 x (by decide) _ _ _ _)
  exact ((b0.trans (r8.mono b0.size)).setCell (by dsimp only;omega) _).setCell (by dsimp only;omega) _
 have hd:decide ((0:Int)≤bA (val (WD.m ⟨b,l⟩)) (val (WD.m ⟨b',l'⟩)))=false:=by simp [rC];omega
 have HZ:=Qh (zf (a:=⟨b,l⟩) (b:=⟨b',l'⟩) hs (by omega));have HV:=Qh hv;clear hs hv;have hlen:n1≤n2:=ul h1 h2 hcm1 hcm2 (Nat.le_of_not_le HV.out)
 go_wp2_with (first
  | (go_at_call 244;(with_reducible refine (kw _ A1 n1 c1 (WD.m ⟨b,l⟩) ?_ ?_ A2 n2 c2 (WD.m ⟨b',l'⟩) ?_ ?_ hcm1 hcm2).mono ?_);(exact h1);(omega);(exact h2);(omega);rintro e w5 ⟨rfl,hb5⟩;have r5:=ak r4 hb5;replace wa:=wa.belw hb5;replace wb:=wb.belw hb5;replace h1:=h1.belw hb5;replace h2:=h2.belw hb5;(try clear sc sf sr sz);obtain ⟨⟨sc,sf⟩,sr,sz⟩:=bm.of (by omega) hs0 hm0 r5)
  | (go_at_call 222;(with_reducible refine (dS _ b' A' n' c' l' ?_ ?_).mono ?_);(exact wb);(omega);rintro e w6 ⟨rfl,hb6⟩;have r6:=ak r5 hb6;replace wa:=wa.belw hb6;replace wb:=wb.belw hb6;replace h1:=h1.belw hb6;replace h2:=h2.belw hb6;(try clear sc sf sr sz);obtain ⟨⟨sc,sf⟩,sr,sz⟩:=bm.of (by omega) hs0 hm0 r6)
  | (go_at_call 255;(with_reducible refine (mX _ A2 n2 c2 (WD.m ⟨b',l'⟩) ?_ ?_ A1 n1 c1 (WD.m ⟨b,l⟩) ?_ ?_ ?_).mono ?_);(exact h2);(omega);(exact h1);(exact hlen);(exact Nat.le_of_not_le HV.out);rintro e w7 ⟨A3,n3,c3,rfl,h3,hb7⟩;have r7:=ak r6 hb7;replace wa:=wa.belw hb7;replace wb:=wb.belw hb7;replace h1:=h1.belw hb7;replace h2:=h2.belw hb7;(try clear sc sf sr sz);obtain ⟨⟨sc,sf⟩,sr,sz⟩:=bm.of (by omega) hs0 hm0 r7)
  | (go_at_call 213;(with_reducible refine (jx _ (WD.s ⟨b',l'⟩) A3 n3 c3 (ap (val (WD.m ⟨b',l'⟩) - val (WD.m ⟨b,l⟩))) ?_ ?_).mono ?_);(exact h3);(rw [h3.2.1];exact qs (Nat.lt_of_le_of_lt (Nat.sub_le _ _) (h2.vlt hn2)) (by decide));rintro e w8 ⟨A4,n4,c4,rfl,h4,hb8⟩;have r8:=ak r7 hb8;replace wa:=wa.belw hb8;replace wb:=wb.belw hb8;replace h1:=h1.belw hb8;replace h2:=h2.belw hb8;replace h3:=h3.belw hb8;(try clear sc sf sr sz);obtain ⟨⟨sc,sf⟩,sr,sz⟩:=bm.of (by omega) hs0 hm0 r8))
 rw [ag,← HZ.out] at h4;refine bodyPost_ret (v:=.agg #[.bool _,.slice A4 n4 c4]) (by simp [results,Tryz.results242,go_sem,sr];rfl) rfl ?_;have x:=x2.below r8;refine jm ?_ ?_ ?_
 ·rw [HZ.out,ag]
 ·exact h4.keep (kp2 x (by decide) _ _ _ _)
 exact ((b0.trans (r8.mono b0.size)).setCell (by dsimp only;omega) _).setCell (by dsimp only;omega) _
theorem zw (w:World) (i:Int) (h0:-9223372036854775808≤i) (h1:i < 9223372036854775808) :
 Calls Tryz.prog 216 #[.int .i64 i] w (iR w (wh i)):=by
 obtain ⟨v,hv⟩:∃ v:Nat,v=i.natAbs:=⟨_,rfl⟩;have hv2:v < 18446744073709551616:=by omega
 have hval:val [v % 4294967296,v / 4294967296]=v:=by simp [val];omega
 have HV:=Qh hval;by_cases hneg:i < 0
 ·have e1:IntKind.u64.wrap i=i+18446744073709551616:=by unfold IntKind.wrap;simp [IntKind.bits,IntKind.signed];omega
  have e2:IntKind.u64.wrap (-(i+18446744073709551616))=(v:Int):=by unfold IntKind.wrap;simp [IntKind.bits,IntKind.signed];omega
  have e3:decide (i < 0)=true:=by simp;omega
  have e4:IntKind.u32.wrap (v:Int)=((v % 4294967296:Nat):Int):=by unfold IntKind.wrap;simp [IntKind.bits,IntKind.signed]
  have e5:IntKind.u32.wrap ((v:Int) / 4294967296)=((v / 4294967296:Nat):Int):=by unfold IntKind.wrap;simp [IntKind.bits,IntKind.signed];omega
  have HZ:=Qh (show sgn true v=i by simp [sgn];omega);have HV2:=Qh hv2;clear hv hval hv2 hneg h0 h1;go_in;go_wp2_with (go_at_call 213;(with_reducible refine (dz _ true (some ⟨w.heap.size+1,0,none⟩) 2 2 [v % 4294967296,v / 4294967296] i ?_ ?_ ?_).mono ?_);(exact jw (w.alloc _) _ (by simp) _ _ v (by simp) (by simp) HV2.out);(omega);(rw [HV.out];exact HZ.out);rintro e w1 ⟨A1,n1,c1,rfl,h1,hb⟩;obtain ⟨hc,hf⟩:=ct hb);have hc0:w1.cell? ⟨w.heap.size,0,none⟩=some (.bool false):=(hc w.heap.size 0 (by simp;omega)).trans (by simp [go_sem]);have hc1:w1.cell? ⟨w.heap.size,1,none⟩=some (.slice none 0 0):=(hc w.heap.size 1 (by simp;omega)).trans (by simp [go_sem]);refine bodyPost_ret (v:=.agg #[.bool _,.slice A1 n1 c1]) (by simp [results,Tryz.results216,go_sem,hc0,hc1];rfl) rfl ?_;have x:=((bB w #[.bool false,.slice none 0 0] 194 rfl).alloc _).below hb;refine jm ?_ ?_ ?_
  ·rfl
  ·exact h1.keep (kp2 x (by decide) _ _ _ _)
  exact ((((((Below.refl _ _).alloc Qr _).alloc (by simp) _).trans (hb.mono (by simp;omega)))).setCell (by dsimp only;omega) _).setCell (by dsimp only;omega) _
 have e1:IntKind.u64.wrap i=(v:Int):=by unfold IntKind.wrap;simp [IntKind.bits,IntKind.signed];omega
 have e3:decide (i < 0)=false:=by simp;omega
 have e4:IntKind.u32.wrap (v:Int)=((v % 4294967296:Nat):Int):=by unfold IntKind.wrap;simp [IntKind.bits,IntKind.signed]
 have e5:IntKind.u32.wrap ((v:Int) / 4294967296)=((v / 4294967296:Nat):Int):=by unfold IntKind.wrap;simp [IntKind.bits,IntKind.signed];omega
 have HZ:=Qh (show sgn false v=i by simp [sgn];omega);have HV2:=Qh hv2;clear hv hval hv2 hneg h0 h1;go_in;go_wp2_with (go_at_call 213;(with_reducible refine (dz _ false (some ⟨w.heap.size+1,0,none⟩) 2 2 [v % 4294967296,v / 4294967296] i ?_ ?_ ?_).mono ?_);(exact jw (w.alloc _) _ (by simp) _ _ v (by simp) (by simp) HV2.out);(omega);(rw [HV.out];exact HZ.out);rintro e w1 ⟨A1,n1,c1,rfl,h1,hb⟩;obtain ⟨hc,hf⟩:=ct hb);have hc0:w1.cell? ⟨w.heap.size,0,none⟩=some (.bool false):=(hc w.heap.size 0 (by simp;omega)).trans (by simp [go_sem]);have hc1:w1.cell? ⟨w.heap.size,1,none⟩=some (.slice none 0 0):=(hc w.heap.size 1 (by simp;omega)).trans (by simp [go_sem]);refine bodyPost_ret (v:=.agg #[.bool _,.slice A1 n1 c1]) (by simp [results,Tryz.results216,go_sem,hc0,hc1];rfl) rfl ?_;have x:=((bB w #[.bool false,.slice none 0 0] 194 rfl).alloc _).below hb;refine jm ?_ ?_ ?_
 ·rfl
 ·exact h1.keep (kp2 x (by decide) _ _ _ _)
 exact ((((((Below.refl _ _).alloc Qr _).alloc (by simp) _).trans (hb.mono (by simp;omega)))).setCell (by dsimp only;omega) _).setCell (by dsimp only;omega) _
theorem pl (w:World) (b:Bool) (A n c l) (wa:Wd w A n c l) (hn:n≤1099511627000) :
 Calls Tryz.prog 211 #[.agg #[.bool b,.slice A n c]] w (av w (.int .i64 (WD.z ⟨b,l⟩).sign)):=by
 have hz:=WD.z_eq ⟨b,l⟩;have hcan:aW (WD.m ⟨b,l⟩):=WD.canon_m wa.1;by_cases hm:WD.m ⟨b,l⟩=[]
 ·have HE:=Qh (show (WD.z ⟨b,l⟩).sign=0 by rw [hz,hm];cases WD.s ⟨b,l⟩ <;> rfl)
  have HM:=Qh hm;clear hz hm hcan;go_in;go_wp2_with fail;(with_reducible refine (dy _ b A n c l ?_ ?_).mono ?_);(exact wa.keep ((Kp.refl _).alloc _));(omega);rintro e w1 ⟨A1,n1,c1,rfl,h1,hb⟩;have hn1:n1=0:=by rw [h1.2.1,HM.out];rfl
  subst hn1;go_wp2;go_ret;exact bV HE.out.symm (((Below.refl _ _).alloc Qr _).trans (hb.mono (by simp)))
 obtain ⟨s,hs⟩:∃ s,WD.s ⟨b,l⟩=s:=⟨_,rfl⟩;have hv:val (WD.m ⟨b,l⟩)≠0:=fun e=>hm ((dq hcan).1 e)
 have HE:=Qh (show (WD.z ⟨b,l⟩).sign=if s then -1 else 1 by
  rw [hz,hs];cases s
  ·simp only [sgn];exact Int.sign_eq_one_of_pos (by simp;omega)
  simp only [sgn];exact Int.sign_eq_neg_one_of_neg (by simp;omega))
 have HM:=Qh hm;have HS:=Qh hs;clear hz hm hcan hs hv;go_in;go_wp2_with fail;(with_reducible refine (dy _ b A n c l ?_ ?_).mono ?_);(exact wa.keep ((Kp.refl _).alloc _));(omega);rintro e w1 ⟨A1,n1,c1,rfl,h1,hb⟩;have hn1:n1≠0:=fun e=>HM.out (List.eq_nil_of_length_eq_zero (by rw [← h1.2.1,e]))
 have e0:((n1:Int) == 0)=false:=by simp;omega
 have q:Below w.heap.size w w1:=((Below.refl _ _).alloc Qr _).trans (hb.mono (by simp));have x:Blk w1 w.heap.size 194 #[.bool b,.slice A n c]:=(ah w _ _ rfl).below hb (by simp);have cx0:=x.c2;clear hb hn1;go_wp2_with fail;(with_reducible refine (dS _ b A n c l ?_ ?_).mono ?_);(exact wa.belw q);(omega);rintro e w2 ⟨rfl,hb2⟩;rw [HS.out];cases s
 all_goals
  go_wp2;go_ret;exact bV HE.out.symm (q.trans (hb2.mono q.size))
theorem uQ (x y:Int):(x+-y).sign=fN x y:=by
 unfold fN;rcases Int.lt_trichotomy x y with h | h | h
 ·rw [if_pos h];exact Int.sign_eq_neg_one_of_neg (by omega)
 ·subst h;simp [show x+-x=0 by omega]
 rw [if_neg (by omega),if_neg (by omega)];exact Int.sign_eq_one_of_pos (by omega)
section
variable (w:World) (b A n c z k) (h:IZ w b A n c z k) (b' A' n' c' z' k') (h':IZ w b' A' n' c' z' k')
include h
theorem kM (hk:k≤1000000000):Calls Tryz.prog 238 #[.agg #[.bool b,.slice A n c]] w (jc w (-z) k):=by
 have hz:=h.lt;obtain ⟨l,h1,rfl,h3⟩:=h;exact (xh w b A n c l h1 (by omega)).mono fun _ _ r=>r.i (by omega)
theorem lq (hk:k≤1000000000):Calls Tryz.prog 211 #[.agg #[.bool b,.slice A n c]] w (av w (.int .i64 z.sign)):=by
 obtain ⟨l,h1,rfl,h3⟩:=h;exact pl w b A n c l h1 (by omega)
include h'
theorem rH (hk:k+k'≤1000000000):Calls Tryz.prog 242 #[.agg #[.bool b,.slice A n c],.agg #[.bool b',.slice A' n' c']] w (jc w (z+z') (k+k'+1)):=by
 have hz:=h.mono (Nat.le_add_right k k') |>.lt
 have hz':=h'.mono (Nat.le_add_left k' k) |>.lt
 obtain ⟨l,h1,rfl,h3⟩:=h;obtain ⟨l',h1',rfl,h3'⟩:=h';exact (xi w b A n c l h1 (by omega) b' A' n' c' l' h1' (by omega)).mono fun _ _ r=>r.i (iW hz hz')
end
theorem zx (w:World) (i:Int) (k:Nat) (h0:-9223372036854775808≤i) (h1:i < 9223372036854775808) (hs:i.natAbs < 4294967296 ^ k):Calls Tryz.prog 216 #[.int .i64 i] w (jc w i k) :=
 (zw w i h0 h1).mono fun _ _ r=>r.i hs
theorem rI (w:World) (i:Int) (h0:-4294967296 < i) (h1:i < 4294967296):Calls Tryz.prog 216 #[.int .i64 i] w (jc w i 1):=zx w i 1 (by omega) (by omega) (by omega)
theorem xj (w:World) (b A n c z k) (h:IZ w b A n c z k) (b' A' n' c' z' k') (h':IZ w b' A' n' c' z' k') (hk:k+k'≤1000000000) :
 Calls Tryz.prog 212 #[.agg #[.bool b,.slice A n c],.agg #[.bool b',.slice A' n' c']] w (jc w (z+-z') (k+k'+1)):=by
 go_in;go_wp2_with fail;have p1:=((((Kp.refl w).alloc (.cells #[.bool b,.slice A n c] 194)).alloc (.cells #[.bool b',.slice A' n' c'] 194)).alloc (.cells #[.bool false,.slice none 0 0] 194));have bw1:=((((aa w).alloc (by first | omega | (simp <;> omega)) (.cells #[.bool b,.slice A n c] 194)).alloc (by first | omega | (simp <;> omega)) (.cells #[.bool b',.slice A' n' c'] 194)).alloc (by first | omega | (simp <;> omega)) (.cells #[.bool false,.slice none 0 0] 194));have x1a:Blk (((w.alloc (.cells #[.bool b,.slice A n c] 194)).alloc (.cells #[.bool b',.slice A' n' c'] 194)).alloc (.cells #[.bool false,.slice none 0 0] 194)) w.heap.size 194 #[.bool b,.slice A n c]:=(((ah _ _ _ (by simp)).alloc (.cells #[.bool b',.slice A' n' c'] 194)).alloc (.cells #[.bool false,.slice none 0 0] 194));have x1b:Blk (((w.alloc (.cells #[.bool b,.slice A n c] 194)).alloc (.cells #[.bool b',.slice A' n' c'] 194)).alloc (.cells #[.bool false,.slice none 0 0] 194)) (w.heap.size+1) 194 #[.bool b',.slice A' n' c']:=((ah _ _ _ (by simp)).alloc (.cells #[.bool false,.slice none 0 0] 194));have x1c:Blk (((w.alloc (.cells #[.bool b,.slice A n c] 194)).alloc (.cells #[.bool b',.slice A' n' c'] 194)).alloc (.cells #[.bool false,.slice none 0 0] 194)) (w.heap.size+1+1) 194 #[.bool false,.slice none 0 0]:=(ah _ _ _ (by simp));have lw1:w.heap.size+3≤(((w.alloc (.cells #[.bool b,.slice A n c] 194)).alloc (.cells #[.bool b',.slice A' n' c'] 194)).alloc (.cells #[.bool false,.slice none 0 0] 194)).heap.size:=by simp
 generalize hE1:(((w.alloc (.cells #[.bool b,.slice A n c] 194)).alloc (.cells #[.bool b',.slice A' n' c'] 194)).alloc (.cells #[.bool false,.slice none 0 0] 194))=w1 at p1 bw1 lw1 x1a x1b x1c ⊢;clear hE1;replace h:=h.keep p1;replace h':=h'.keep p1;have cx1a:=x1a.c2;have lx1a:=fM x1a.lt;have cx1b:=x1b.c2;have lx1b:=gG x1b.lt;obtain ⟨cx1ca,cx1cb⟩:=x1c.c2;obtain ⟨fx1ca,fx1cb⟩:=x1c.f2;have lx1c:=oV x1c.lt;have nfx1_0_0:¬ w.heap.size=w.heap.size+1+1:=by omega
 have nex1_0_0:¬ w.heap.size=w.heap.size+2:=by omega
 have nfx1_1_0:¬ w.heap.size+1=w.heap.size+1+1:=by omega
 have nex1_1_0:¬ w.heap.size=w.heap.size+1:=by omega
 go_region_held3 (fun w'=>SeesX w1.heap.size (w.heap.size+1+1) w1 w') (first | with_reducible exact SeesX.of Qr (by assumption) | with_reducible exact SeesX.of Qr (aa _).drew | with_reducible exact (SeesX.set (SeesX.set (SeesX.of Qr (by assumption)))) | with_reducible exact (SeesX.set (SeesX.of Qr (by assumption))) | exact SeesX.of Qr (af (aa _) 1) | exact SeesX.of Qr (af (by assumption) _))
  (first
   | (go_at_call 238;(with_reducible refine (kM _ b' A' n' c' (z') (k') ?_ ?_).mono ?_);(exact h');(omega);rintro e w2 ⟨b2,A2,n2,c2,rfl,h2,hb2⟩;replace hb2:=ak (af (aa _) 1) hb2;have q2:Below w1.heap.size w1 w2:=ak (aa w1) hb2;replace h:=h.belw hb2;replace h':=h'.belw hb2)
   | (go_at_call 242;(with_reducible refine (rH _ b A n c (z) (k) ?_ b2 A2 n2 c2 (-(z')) ((k')) ?_ ?_).mono ?_);(exact h);(exact h2.iz);(omega);rintro e w3 ⟨b3,A3,n3,c3,rfl,h3,hb3⟩;have q3:Below w1.heap.size w1 w3:=ak q2 hb3;replace h:=h.belw hb3;replace h':=h'.belw hb3;replace h2:=h2.belw hb3;have x1c:=x1c.b q3;obtain ⟨cx1ca,cx1cb⟩:=x1c.c2;obtain ⟨fx1ca,fx1cb⟩:=x1c.f2))
 have bw3:=bw1.trans (q3.mono bw1.size);clear cx1a lx1a cx1b lx1b cx1ca fx1ca cx1cb fx1cb lx1c;replace x1a:=x1a.b q3;replace x1b:=x1b.b q3;have lw3:=q3.size;obtain ⟨cx1ca,cx1cb⟩:=x1c.c2;obtain ⟨fx1ca,fx1cb⟩:=x1c.f2;go_wp2_with fail;refine bodyPost_ret (v:=.agg #[.bool b3,.slice A3 n3 c3]) (by simp [results,Tryz.results212,go_sem, *] <;> trivial) rfl ?_;exact ⟨b3,A3,n3,c3,rfl,h3.keep (((Kp.refl w3).sb (w.heap.size+1+1) 0 x1c.box (by decide) (.bool b3)).sb (w.heap.size+1+1) 1 (x1c.box.set ⟨w.heap.size+1+1,0,none⟩ (.bool b3)) (by decide) (.slice A3 n3 c3)),((bw3.sc (w.heap.size+1+1) 0 (by omega) (.bool b3)).sc (w.heap.size+1+1) 1 (by omega) (.slice A3 n3 c3))⟩
theorem xk (w:World) (b A n c z k) (h:IZ w b A n c z k) (b' A' n' c' z' k') (h':IZ w b' A' n' c' z' k') (hk:k+k'≤999999999) :
 Calls Tryz.prog 171 #[.agg #[.bool b,.slice A n c],.agg #[.bool b',.slice A' n' c']] w (av w (.int .i64 (fN z z'))):=by
 go_in;go_wp2_with fail;(with_reducible refine (xj _ b A n c (z) (k) ?_ b' A' n' c' (z') (k') ?_ ?_).mono ?_);(exact (h.belw (((Below.refl _ _).alloc Qr _).alloc (by simp) _)));(exact (h'.belw (((Below.refl _ _).alloc Qr _).alloc (by simp) _)));(omega);rintro e w1 ⟨b1,A1,n1,c1,rfl,h1,hb1⟩;have q1:=hb1.q2;replace h:=h.belw q1;replace h':=h'.belw q1;have x1a:Blk w1 w.heap.size 194 #[.bool b,.slice A n c]:=((ah _ _ _ (by simp)).alloc _).below hb1 (by simp <;> omega);have x1b:=(ah _ _ _ (g:=w.heap.size+1) (by simp)).below hb1 (by simp);have bw1:=(aa w).trans (q1.mono (aa w).size);have lw1:=hb1.l2;clear q1;go_wp2_with fail;(with_reducible refine (lq _ b1 A1 n1 c1 ((z)+-(z')) ((k)+(k')+1) ?_ ?_).mono ?_);(exact h1.iz);(omega);rintro e w2 ⟨rfl,q2⟩;replace h:=h.belw q2;replace h':=h'.belw q2;replace h1:=h1.belw q2;replace x1a:=x1a.b q2;replace x1b:=x1b.b q2;have bw2:=bw1.trans (q2.mono bw1.size);have lw2:=q2.size;clear q2 bw1;go_wp2;go_ret;exact bV (uQ _ _) bw2

def OwS (w:World) (B g n cap:Nat) (l:List Nat):Prop:=w.ownsRow B 58 1 (.slice (some ⟨g,0,none⟩) n cap) n (words l)∧Wds l
theorem OwS.len {w:World}{B g n cap:Nat}{l:List Nat}(h:OwS w B g n cap l):n=l.length:=by have:=h.1.1;rw [dd] at this;omega
theorem OwS.base {w:World}{B g n cap:Nat}{l:List Nat}(h:OwS w B g n cap l):B≤g:=fO h.1 g rfl
theorem OwS.toWd {w:World}{B g n cap:Nat}{l:List Nat}(h:OwS w B g n cap l):Wd w (some ⟨g,0,none⟩) n cap l:=Wd.of_own h.1 h.2
theorem OwS.cell {w:World}{B g n cap:Nat}{l:List Nat}(h:OwS w B g n cap l) (i:Nat) (hi:i < n):w.cell? ⟨g,i,none⟩=some (.int .u32 (wd l i:Nat)):=by
 rw [h.1.cellAt i (by omega)];exact j5 (by rw [← h.len];exact hi)
theorem OwS.frozen {w:World}{B g n cap:Nat}{l:List Nat}(h:OwS w B g n cap l) (i:Nat):w.frozen? ⟨g,i,none⟩=false:=h.1.frozenAt i
theorem OwS.lt {w:World}{B g n cap:Nat}{l:List Nat}(h:OwS w B g n cap l):g < w.heap.size:=by
 rcases h.1.2 with ⟨e,_⟩ | ⟨g',c',cur,e,_,hg,_⟩
 ·cases e
 injection e with e;injection e with e;injection e with e;subst e;exact lt_of_block hg
theorem OwS.cap {w:World}{B g n cap:Nat}{l:List Nat}(h:OwS w B g n cap l):n≤cap:=h.toWd.2.2.1
theorem OwS.cut {w:World}{B g n cap:Nat}{l:List Nat}(h:OwS w B g n cap l) {k:Nat}(hk:k≤n):OwS w B g k cap (l.take k):=by
 have hl:=h.len;refine ⟨⟨by rw [dd,List.length_take];omega,?_⟩,Wds.take h.2 k⟩;rcases h.1.2 with ⟨e,_⟩ | ⟨g',c',cur,e,hb,hg,hc,hm,hs,ht⟩
 ·cases e
 injection e with e1 _ e2;injection e1 with e1;injection e1 with e1;subst e1 e2;refine .inr ⟨g,cap,cur,rfl,hb,hg,by omega,hm,hs,?_⟩;have:words (l.take k)=(words l).take k:=by simp [words,List.map_take]
 rw [this,← ht,List.take_take];congr 1;omega
theorem sV (l:List Nat) (i x:Nat):(words l).set i (.int .u32 (x:Nat))=words (l.set i x):=by simp [words,List.map_set]
theorem OwS.set {w:World}{B g n cap:Nat}{l:List Nat}(h:OwS w B g n cap l) (i:Nat) {x:Nat}(hx:x < 4294967296) {z:Int}(hz:z=x):OwS (w.setCell ⟨g,i,none⟩ (.int .u32 z)) B g n cap (l.set i x):=by
 subst hz;refine ⟨?_,wds_set h.2 i hx⟩;rw [← sV];exact (h.1.stored i _).1
def eY (g:Nat) (w w':World):Prop:=Below g w w'∧w'.heap.size=w.heap.size∧∀ b,b≠g→w'.heap[b]?=w.heap[b]?
theorem eY.refl (g:Nat) (w:World):eY g w w:=⟨Below.refl _ _,rfl,fun _ _=>rfl⟩
theorem eY.set {g:Nat}{w w':World}(h:eY g w w') (i:Nat) (u:Value):eY g w (w'.setCell ⟨g,i,none⟩ u) :=
 ⟨h.1.setCell (p:=⟨g,i,none⟩) Qr u,by rw [← h.2.1];simp [World.setCell],fun b hb=>(Below.heap_setCell w' ⟨g,i,none⟩ u b hb).trans (h.2.2 b hb)⟩
theorem eY.trans {g:Nat}{a b c:World}(h:eY g a b) (k:eY g b c):eY g a c:=⟨h.1.trans k.1,k.2.1.trans h.2.1,fun x hx=>(k.2.2 x hx).trans (h.2.2 x hx)⟩
theorem eY.own {g:Nat}{w w':World}(h:eY g w w') {B g' n cap:Nat}{l:List Nat}(k:OwS w B g' n cap l) (hg:g'≠g):OwS w' B g' n cap l:=by
 refine ⟨⟨k.1.1,?_⟩,k.2⟩;rcases k.1.2 with ⟨e,_⟩ | ⟨g1,c',cur,e,hb,hgg,r⟩
 ·cases e
 have e':=e;injection e with e1 _ e2;injection e1 with e1;injection e1 with e1;subst e1;exact .inr ⟨g',c',cur,e',hb,(h.2.2 _ hg).trans hgg,r⟩
theorem eY.wd {g:Nat}{w w':World}(h:eY g w w') {g' o n c:Nat}{l:List Nat}(k:Wd w (some ⟨g',o,none⟩) n c l) (hg:g'≠g):Wd w' (some ⟨g',o,none⟩) n c l:=by
 refine ⟨k.1,k.2.1,k.2.2.1,fun hn=>?_⟩;obtain ⟨g1,o1,cur,fr,e,hb,hc⟩:=k.2.2.2 hn;have e':=e;injection e with e1;injection e1 with e1;subst e1;exact ⟨_,o1,cur,fr,e',hb.same (h.2.2 _ hg),hc⟩
def Bq (w:World) (l:List Nat) (e:Ending) (w':World):Prop:=∃ g k cap,e=.returned (.slice (some ⟨g,0,none⟩) k cap)∧OwS w' w.heap.size g k cap l∧Below w.heap.size w w'
theorem jy (w:World) (A:Option Addr) (n c:Nat) (l:List Nat) (h:Wd w A n c l) (hn:n≤4398046511104) :
 Calls Tryz.prog 221 #[.slice A n c] w (Bq w (ap (val l))):=by
 have HL:=Qh h.2.1;have hcap:n≤c:=h.2.2.1;obtain ⟨i0,hi0,hz0,hz1,hz2⟩:=info_parts dY;by_cases h0:n=0
 ·subst h0
  have HE:=Qh (show ap (val l)=[] by rw [List.eq_nil_of_length_eq_zero HL.out.symm];exact aB);clear h hn;go_in;go_wp2_with (at_builtin;refine eK rfl _ _ _ rfl 58 i0 Tryz.underlying63 hi0 _ _ _ rfl rfl ?_);go_loop [3] (fun v=>v=.slice (some ⟨w.heap.size,0,none⟩) 0 0) (fun _=>0)
  case atStart=>rfl
  case round =>
   subst hrel;go_wp2;go_ret;refine ⟨_,_,_,rfl,?_,(Below.refl _ _).alloc Qr _⟩;rw [HE.out];exact ⟨World.ownsRow_lit (e:=58) (size:=1) w #[] 0 Qr (by simp [maxLen]) rfl,by simp [Wds]⟩
 obtain ⟨g,o,rfl,hc⟩:=h.at_ (by omega);clear hc;have hp:0 < n:=by omega
 have hown:=World.ownsRow_lit (e:=58) (size:=1) w #[] 0 Qr (by simp [maxLen]) rfl;have hnews:=(h.keep ((Kp.refl w).alloc (.cells #[] 58))).news (by omega) Qr;have hnl:(words (l.take n)).length=n * 1:=by rw [dd,List.length_take,← HL.out];omega
 have HO:=Qh hown;have HN:=Qh hnews;have HNL:=Qh hnl;have HW:=Qh h.1;clear hown hnews hnl h h0;go_in;go_wp2_with (at_builtin;refine wpList_append_lies _ rfl _ _ _ rfl w.heap.size 58 i0 (.int .u32 0) 1 4 Tryz.underlying63 hi0 hz0 hz1 hz2 rfl (by omega) _ 0 [] rfl HO.out ⟨g,o,none⟩ n c (words (l.take n)) rfl HNL.out HN.out (fL _) (by omega) (by unfold maxLen;omega) (by omega) (by simp) (w.heap.size+1) (by simp) ?_;intro gx cap w1 hown1 hgrow hat hlt1);simp only [Nat.zero_add,List.nil_append] at hown1;have hw1:=Wd.of_own hown1 (Wds.take HW.out n);rw [List.take_of_length_le (Nat.le_of_eq HL.out.symm)] at hw1;have hbel:=((Below.refl w.heap.size w).alloc Qr (.cells #[] 58)).grown hgrow (by simp) (fun b hb=>Nat.le_of_eq (Option.some.inj hb));have HW1:=Qh hw1;rw [List.take_of_length_le (Nat.le_of_eq HL.out.symm)] at hown1;have HOW:=Qh (show OwS w1 w.heap.size gx n cap l from ⟨hown1,HW.out⟩);have HB:=Qh hbel;have hcap1:n≤cap:=hw1.2.2.1;clear hown1 hgrow hat hw1 hbel HO HN HNL;go_loop [3] (fun v=>∃ k:Nat,k≤n∧v=.slice (some ⟨gx,0,none⟩) k cap∧rA l k) (fun v=>match v with | .slice _ k _=>k | _=>0)
 case atStart=>exact ⟨n,Qr,by simp,fun i hi=>eV (by rw [← HL.out];exact hi)⟩
 case round =>
  obtain ⟨k,hk,rfl,ht⟩:=hrel;by_cases h0:k=0
  ·subst h0
   have HT:=Qh ht;clear ht;go_wp2;go_ret;refine ⟨_,_,_,rfl,?_,HB.out⟩;have:=bM HW.out (Nat.zero_le _) HT.out (.inl rfl);rw [this];exact HOW.out.cut (Nat.zero_le _)
  have hkp:0 < k:=by omega
  obtain ⟨g',o',e,hc⟩:=HW1.out.at_ (by omega);injection e with e;injection e with e1 e2;subst e1 e2;have hck:=hc (k - 1) (by omega);rw [Nat.zero_add] at hck;have hlt:=HW1.out.lt (k - 1);have HT:=Qh ht;generalize hx:wd l (k - 1)=x at *;have HX:=Qh hx;clear hc h0 ht hx;by_cases hz:x=0
  ·subst hz
   go_wp2;go_round
   case rel=>exact ⟨k - 1,by omega,rfl,fun i hi=>by
    by_cases he:i=k - 1
    ·subst he;exact HX.out
    exact HT.out i (by omega)⟩
   case measure=>dsimp only;omega
  have hz':((x:Int) == 0)=false:=by simp;omega
  have HZ:=Qh hz;clear hz;go_wp2;go_ret;have hd:=bM HW.out (by rw [← HL.out];exact hk) HT.out (.inr (by rw [HX.out];exact HZ.out));refine ⟨_,_,_,rfl,?_,HB.out⟩;rw [hd];exact HOW.out.cut hk
def Br (w:World) (B g cap:Nat) (l:List Nat) (e:Ending) (w':World):Prop:=∃ k,e=.returned (.slice (some ⟨g,0,none⟩) k cap)∧OwS w' B g k cap l∧w=w'
theorem jz (w:World) (B g n cap:Nat) (l:List Nat) (h:OwS w B g n cap l) (hn:n≤4398046511104) :
 Calls Tryz.prog 246 #[.slice (some ⟨g,0,none⟩) n cap] w (Br w B g cap (ap (val l))):=by
 have hcap:=h.cap;have HL:=Qh h.len;have HO:=Qh h;clear h;go_in;go_wp2_with fail;go_loop [0] (fun v=>∃ k:Nat,k≤n∧v=.slice (some ⟨g,0,none⟩) k cap∧rA l k) (fun v=>match v with | .slice _ k _=>k | _=>0)
 case atStart=>exact ⟨n,Qr,rfl,fun i hi=>eV (by rw [← HL.out];exact hi)⟩
 case round =>
  obtain ⟨k,hk,rfl,ht⟩:=hrel;by_cases h0:k=0
  ·subst h0
   have HT:=Qh ht;clear ht;go_wp2;go_ret;refine ⟨_,rfl,?_,rfl⟩;have:=bM HO.out.2 (Nat.zero_le _) HT.out (.inl rfl);rw [this];exact HO.out.cut (Nat.zero_le _)
  have hkp:0 < k:=by omega
  have hck:=HO.out.cell (k - 1) (by omega);have hlt:=bH HO.out.2 (k - 1);have HT:=Qh ht;generalize hx:wd l (k - 1)=x at *;have HX:=Qh hx;clear h0 ht hx;by_cases hz:x=0
  ·subst hz
   go_wp2;go_round
   case rel=>exact ⟨k - 1,by omega,rfl,fun i hi=>by
    by_cases he:i=k - 1
    ·subst he;exact HX.out
    exact HT.out i (by omega)⟩
   case measure=>dsimp only;omega
  have hz':((x:Int) == 0)=false:=by simp;omega
  have HZ:=Qh hz;clear hz;go_wp2;go_ret;have hd:=bM HO.out.2 (by rw [← HL.out];exact hk) HT.out (.inr (by rw [HX.out];exact HZ.out));refine ⟨_,rfl,?_,rfl⟩;rw [hd];exact HO.out.cut hk

theorem uR {x y:Nat}(hx:x < 4294967296):(x / 2 ||| y * 2147483648) % 4294967296=x / 2+(y % 2) * 2147483648:=by
 have h1:x / 2 < 2 ^ 31:=by omega
 have h2:y * 2147483648 ||| x / 2=y * 2147483648+x / 2:=by
  have:=Nat.shiftLeft_add_eq_or_of_lt h1 y;rw [Nat.shiftLeft_eq] at this;exact this.symm
 rw [Nat.or_comm,h2];omega
def fA (l L:List Nat) (j:Nat):Prop:=Wds L∧L.length=l.length∧(∀ i,j≤i→wd L i=wd l i)∧2 * Sm (wd L) j+wd l 0 % 2=Sm (wd l) j+wd l j % 2 * 4294967296 ^ j
theorem fA.start {l:List Nat}(h:Wds l):fA l l 0:=⟨h,rfl,fun _ _=>rfl,by simp [Sm]⟩
theorem fA.step {l L:List Nat}{j:Nat}(h:fA l L j) (hj:j < l.length) (hl:Wds l):fA l (L.set j (wd l j / 2+(wd l (j+1) % 2) * 2147483648)) (j+1):=by
 obtain ⟨h1,h2,h3,h4⟩:=h;have hx:=bH hl j;refine ⟨wds_set h1 j (by omega),by rw [List.length_set];exact h2,fun i hi=>?_,?_⟩
 ·rw [bQ,if_neg (by omega)];exact h3 i (by omega)
 rw [cf _ _ _ (by omega),Sm];generalize wd l j=x at *;generalize wd l (j+1)=y at *;generalize wd l 0=z at *;rw [Nat.pow_succ]
 have e:2 * ((x / 2+y % 2 * 2147483648) * 4294967296 ^ j)+x % 2 * 4294967296 ^ j=x * 4294967296 ^ j+y % 2 * (4294967296 ^ j * 4294967296):=by
  have hx2:x=2 * (x / 2)+x % 2:=by omega
  generalize x / 2=p at *;generalize x % 2=r at *;subst hx2;generalize 4294967296 ^ j=P
  grind
 omega
theorem fA.fin {l L:List Nat}(h:fA l L l.length):val L=val l / 2:=by
 obtain ⟨h1,h2,h3,h4⟩:=h;rw [aX L (by omega),aX l Qr,eV Qr] at h4;omega
theorem sW {x y:Nat}(hx:x < 4294967296) (hy:y < 4294967296) {s:Int}(hs:bits .or .u64 ((x:Int) / 2) ((y:Int) * 2147483648)=s):IntKind.u32.wrap s=((x / 2+y % 2 * 2147483648:Nat):Int):=by
 have e1:(x:Int) / 2=((x / 2:Nat):Int):=by omega
 have e2:(y:Int) * 2147483648=((y * 2147483648:Nat):Int):=by simp
 rw [e1,e2,u64_or_nat _ _ (by omega) (by omega)] at hs;subst hs;rw [IntKind.wrap_u32];have:=uR (y:=y) hx;omega
def Bs (w:World) (B g cap:Nat) (l:List Nat) (e:Ending) (w':World):Prop:=∃ k,e=.returned (.slice (some ⟨g,0,none⟩) k cap)∧OwS w' B g k cap l∧eY g w w'
theorem eR (w:World) (B g n cap:Nat) (l:List Nat) (h:OwS w B g n cap l) (hn:n≤1099511627776) :
 Calls Tryz.prog 243 #[.slice (some ⟨g,0,none⟩) n cap] w (Bs w B g cap (ap (val l / 2))):=by
 have hcap:=h.cap;have hlen:=h.len;have HL:=Qh h.len;have HW:=Qh h.2;have HS:=Qh (fA.start h.2);have HO:=Qh h;clear h hlen;go_in;go_wp2_with fail;go_loopw [6] (fun iv wr=>∃ (j:Nat) (L:List Nat),j≤n∧iv=.int .i64 (j:Nat)∧fA l L j∧OwS wr B g n cap L∧eY g w wr) (fun iv _=>n - (intOf iv).toNat)
 case atStart=>exact ⟨0,l,Nat.zero_le _,rfl,HS.out,HO.out,eY.refl _ _⟩
 case round =>
  obtain ⟨j,L,hj,rfl,hI,hw,hon⟩:=hrel;have HI:=Qh hI;have HWr:=Qh hw;have HOn:=Qh hon;clear hI hw hon;by_cases hlt:j < n
  ·obtain ⟨x,y,hx,hy⟩:∃ x y,wd l j=x∧wd l (j+1)=y:=⟨_,_,rfl,rfl⟩
   have hx1:x < 4294967296:=by rw [← hx];exact bH HW.out j
   have hy1:y < 4294967296:=by rw [← hy];exact bH HW.out (j+1)
   have HX:=Qh (show wd L j=x by rw [HI.out.2.2.1 j Qr,hx]);have HY:=Qh (show wd L (j+1)=y by rw [HI.out.2.2.1 (j+1) (by omega),hy]);have HXY:=Qh (And.intro hx hy);have hck:=HWr.out.cell j hlt;have hfk:=HWr.out.frozen j;obtain ⟨s,hs⟩:∃ s,bits .or .u64 ((x:Int) / 2) ((y:Int) * 2147483648)=s:=⟨_,rfl⟩;have e32:=sW hx1 hy1 hs;have HE:=Qh e32;have ej:((j:Int)+1)=((j+1:Nat):Int):=by omega
   have HEJ:=Qh ej;clear hx hy ej
   go_wp2_with (first
    | (go_at_call 256;(with_reducible refine (bI _ (some ⟨g,0,none⟩) n cap L ?_ j x HX.out (by omega)).mono ?_);exact HWr.out.toWd;rintro e w' ⟨rfl,rfl⟩)
    | (go_at_call 256;rw [HEJ.out];(with_reducible refine (bI _ (some ⟨g,0,none⟩) n cap L ?_ (j+1) y HY.out (by omega)).mono ?_);exact HWr.out.toWd;rintro e w' ⟨rfl,rfl⟩))
   go_roundw
   case rel =>
    have hst:=HI.out.step (by rw [← HL.out];exact hlt) HW.out;rw [HXY.out.1,HXY.out.2] at hst;exact ⟨j+1,_,by omega,by go_num,hst,HWr.out.set j (by omega) (by omega),HOn.out.set j _⟩
   case measure=>simp [intOf];omega
  have hjn:j=n:=by omega
  subst hjn;have HV:=Qh (show val L=val l / 2 from fA.fin (by have:=HI.out;rw [HL.out] at this;exact this));go_wp2_with fail;(with_reducible refine (jz _ B g j cap L ?_ ?_).mono ?_);(exact HWr.out);(omega);rintro e w1 ⟨k,rfl,h1,rfl⟩;go_wp2;go_ret;rw [HV.out] at h1;exact ⟨k,rfl,h1,HOn.out⟩

theorem eY.wd_ {g:Nat}{w w':World}(h:eY g w w') {A:Option Addr}{n c:Nat}{l:List Nat}(k:Wd w A n c l) (hne:∀ ad,A=some ad→ad.block≠g):Wd w' A n c l:=by
 refine ⟨k.1,k.2.1,k.2.2.1,fun hn=>?_⟩;obtain ⟨g1,o1,cur,fr,e,hb,hc⟩:=k.2.2.2 hn;exact ⟨g1,o1,cur,fr,e,hb.same (h.2.2 _ (hne _ e)),hc⟩
def AE (w:World) (B g n cap:Nat) (v:Nat) (e:Ending) (w':World):Prop:=∃ L,e=.returned (.tuple #[])∧OwS w' B g n cap L∧val L=v∧eY g w w'
def AF (l l' L:List Nat) (k br:Nat):Prop:=ut l l' L k br∧L.length=l.length∧∀ i,k≤i→wd L i=wd l i
theorem gM (w:World) (B g n cap:Nat) (l:List Nat) (h:OwS w B g n cap l) (hn:n≤1099511627776) (A' n' c' l') (wb:Wd w A' n' c' l') (hne:∀ ad,A'=some ad→ad.block≠g) (hn':n'≤n) (hv:val l'≤val l) :
 Calls Tryz.prog 245 #[.slice (some ⟨g,0,none⟩) n cap,.slice A' n' c'] w (AE w B g n cap (val l - val l')):=by
 have hcap:=h.cap;have HL:=Qh h.len;have HL':=Qh wb.2.1;have HW:=Qh h.2;have HV:=Qh hv;have HO:=Qh h;have HWB:=Qh wb;have HNE:=Qh hne;clear h hv wb hne;go_in;go_wp2_with fail;go_loopw [4,9] (fun cv iv wr=>∃ (k br:Nat) (L:List Nat),k≤n∧iv=.int .i64 (k:Nat)∧cv=.int .u64 (br:Nat)∧br≤1∧AF l l' L k br∧OwS wr B g n cap L∧eY g w wr) (fun _ iv _=>n - (intOf iv).toNat)
 case atStart=>exact ⟨0,0,l,Nat.zero_le _,rfl,rfl,by omega,⟨⟨HW.out,by simp [Sm]⟩,rfl,fun _ _=>rfl⟩,HO.out,eY.refl _ _⟩
 case round =>
  obtain ⟨k,br,L,hk,rfl,rfl,hbr,hI,hw,hon⟩:=hrel;have HI:=Qh hI;have HWr:=Qh hw;have HOn:=Qh hon;clear hI hw hon;by_cases hkM:k < n
  ·obtain ⟨x,y,hx,hy⟩:∃ x y,wd l k=x∧wd l' k=y:=⟨_,_,rfl,rfl⟩
   have hx1:x < 4294967296:=by rw [← hx];exact bH HW.out k
   have hy1:y < 4294967296:=by rw [← hy];exact HWB.out.lt k
   have HX:=Qh (show wd L k=x by rw [HI.out.2.2 k Qr,hx]);have HY:=Qh hy;have HXl:=Qh hx;have hck:=HWr.out.cell k hkM;have hfk:=HWr.out.frozen k;clear hx hy
   go_wp2_with (first
    | (go_at_call 256;(with_reducible refine (bI _ (some ⟨g,0,none⟩) n cap L ?_ k x HX.out (by omega)).mono ?_);exact HWr.out.toWd;rintro e w' ⟨rfl,rfl⟩)
    | (go_at_call 256;(with_reducible refine (bI _ A' n' c' l' ?_ k y HY.out (by omega)).mono ?_);exact HOn.out.wd_ HWB.out HNE.out;rintro e w' ⟨rfl,rfl⟩))
   go_roundw
   case rel =>
    refine ⟨k+1,1 - (4294967296+x - y - br) / 4294967296,L.set k ((4294967296+x - y - br) % 4294967296),by omega,by go_num,by congr 1;omega,by omega,⟨⟨wds_set HI.out.1.1 _ (Nat.mod_lt _ (by omega)),?_⟩,by rw [List.length_set];exact HI.out.2.1,fun i hi=>?_⟩,HWr.out.set k (Nat.mod_lt _ (by omega)) (by omega),HOn.out.set k _⟩
    ·rw [cf _ _ _ (by rw [HI.out.2.1,← HL.out];exact hkM),Sm,Sm,HXl.out,HY.out,Nat.pow_succ]
     exact j6 HI.out.1.2 (by omega)
    rw [bQ,if_neg (by omega)];exact HI.out.2.2 i (by omega)
   case measure=>simp [intOf];omega
  have hkk:k=n:=by omega
  subst hkk
  have hv2:val L=val l - val l':=by
   have h1:=HI.out.1.2;have h2:=cT HI.out.1.1;have h3:=HV.out;have h4:=HI.out.2.1;have h5:=HL.out;rw [h4,← h5] at h2;rw [aX L (by omega),aX l (by omega),aX l' (by rw [← HL'.out];omega)] at h1;rcases (show br=0∨br=1 by omega) with rfl | rfl
   ·omega
   omega
  have HV2:=Qh hv2;clear hv2;go_wp2_with fail;go_end0;exact ⟨L,rfl,HWr.out,HV2.out,HOn.out⟩

def Two (w wr:World) (N:Nat) (va vb:Value) (x y:Nat):Prop:=∃ ga na ca gb nb cb,va=.slice (some ⟨ga,0,none⟩) na ca∧vb=.slice (some ⟨gb,0,none⟩) nb cb∧OwS wr w.heap.size ga na ca (ap x)∧OwS wr w.heap.size gb nb cb (ap y)∧ga≠gb∧Below w.heap.size w wr∧x < 4294967296 ^ N∧y < 4294967296 ^ N
theorem fk {w:World}{B g n cap x N:Nat}(h:OwS w B g n cap (ap x)) (hx:x < 4294967296 ^ N):n≤N:=by rw [h.len];exact aA hx
theorem dA {w:World}{B g n cap x:Nat}(h:OwS w B g n cap (ap x)) (hx:0 < x):0 < n:=by
 rw [h.len];rcases Nat.eq_zero_or_pos (ap x).length with h1 | h1
 ·have:=bu.1 (List.eq_nil_of_length_eq_zero h1);omega
 exact h1
theorem uS (x:Nat):wd (ap x) 0=x % 4294967296:=by
 by_cases h:x=0
 ·subst h;rw [aB];rfl
 rw [fH h];rfl
theorem fP {w:World}{B g n cap x:Nat}(h:OwS w B g n cap (ap x)) (hx:0 < x):w.cell? ⟨g,0,none⟩=some (.int .u32 ((x % 4294967296:Nat):Int)):=by
 rw [← uS];exact h.cell 0 (dA h hx)
theorem n0 (p:Nat) (hp:p < 4294967296):Go.bits .and .u32 (p:Int) 1=((p % 2:Nat):Int):=by
 have:=u32_and_nat p 1 hp (by decide);rw [Nat.and_one_is_mod] at this;exact this
theorem eZ {p:Nat}(hp:p < 4294967296) (h:p % 2=0):(Go.bits .and .u32 (p:Int) 1 == 0)=true:=by rw [n0 p hp,h];rfl
theorem ik {p:Nat}(hp:p < 4294967296) (h:p % 2=1):(Go.bits .and .u32 (p:Int) 1 == 0)=false:=by rw [n0 p hp,h];rfl
theorem OwS.of_digs {w:World}{B g n cap v x:Nat}(h:OwS w B g n cap (ap (val (ap v) / x))):OwS w B g n cap (ap (v / x)):=by rw [ag] at h;exact h
theorem Two.left {w wr w1:World}{N ga na ca gb nb cb x y u k:Nat}(hT:Two w wr N (.slice (some ⟨ga,0,none⟩) na ca) (.slice (some ⟨gb,0,none⟩) nb cb) x y) (ho:OwS w1 w.heap.size ga k ca (ap u)) (hon:eY ga wr w1) (hu:u≤x):Two w w1 N (.slice (some ⟨ga,0,none⟩) k ca) (.slice (some ⟨gb,0,none⟩) nb cb) u y:=by
 obtain ⟨ga',na',ca',gb',nb',cb',e1,e2,oa,ob,hg,hbl,hxN,hyN⟩:=hT;injection e1 with e1 e3 e4;injection e1 with e1;injection e1 with e1;injection e2 with e2 e5 e6;injection e2 with e2;injection e2 with e2;subst e1 e2 e3 e4 e5 e6;exact ⟨ga,k,ca,gb,nb,cb,rfl,rfl,ho,hon.own ob (Ne.symm hg),hg,hbl.trans (hon.1.mono oa.base),Nat.lt_of_le_of_lt hu hxN,hyN⟩
theorem Two.swap {w wr:World}{N:Nat}{va vb:Value}{x y:Nat}(hT:Two w wr N va vb x y):Two w wr N vb va y x:=by
 obtain ⟨ga,na,ca,gb,nb,cb,e1,e2,oa,ob,hg,hbl,hxN,hyN⟩:=hT;exact ⟨gb,nb,cb,ga,na,ca,e2,e1,ob,oa,Ne.symm hg,hbl,hyN,hxN⟩
theorem bf {w:World}{B g n cap x:Nat}(h:OwS w B g n cap (ap x)):valOf w (.slice (some ⟨g,0,none⟩) n cap)=x:=by rw [h.toWd.valOf,ag]
theorem Two.at_ {w wr:World}{N ga na ca gb nb cb x y:Nat}(hT:Two w wr N (.slice (some ⟨ga,0,none⟩) na ca) (.slice (some ⟨gb,0,none⟩) nb cb) x y):OwS wr w.heap.size ga na ca (ap x)∧OwS wr w.heap.size gb nb cb (ap y)∧ga≠gb∧Below w.heap.size w wr∧x < 4294967296 ^ N∧y < 4294967296 ^ N:=by
 obtain ⟨ga',na',ca',gb',nb',cb',e1,e2,h⟩:=hT;injection e1 with e1 e3 e4;injection e1 with e1;injection e1 with e1;injection e2 with e2 e5 e6;injection e2 with e2;injection e2 with e2;subst e1 e2 e3 e4 e5 e6;exact h
theorem OwS.belw {w w':World}{B g n cap:Nat}{l:List Nat}(h:OwS w B g n cap l) (hb:Below w.heap.size w w'):OwS w' B g n cap l:=by
 refine ⟨⟨h.1.1,?_⟩,h.2⟩;rcases h.1.2 with ⟨e,_⟩ | ⟨g',cap',cur,e,hb1,hgg,r⟩
 ·cases e
 exact .inr ⟨g',cap',cur,e,hb1,(hb.block g' (lt_of_block hgg)).trans hgg,r⟩
theorem Two.belw {w wr w1:World}{N:Nat}{va vb:Value}{x y:Nat}(hT:Two w wr N va vb x y) (hb:Below wr.heap.size wr w1):Two w w1 N va vb x y:=by
 obtain ⟨ga,na,ca,gb,nb,cb,e1,e2,oa,ob,hg,hbl,hxN,hyN⟩:=hT;exact ⟨ga,na,ca,gb,nb,cb,e1,e2,oa.belw hb,ob.belw hb,hg,hbl.trans (hb.mono hbl.size),hxN,hyN⟩
theorem dT {a b:Nat}(h:a≤b):(ap a).length≤(ap b).length:=aA (Nat.lt_of_le_of_lt h (by have:=cT (eU b);rwa [ag] at this))
theorem Two.form {w wr:World}{N:Nat}{va vb:Value}{x y:Nat}(hT:Two w wr N va vb x y):∃ ga na ca gb nb cb,va=.slice (some ⟨ga,0,none⟩) na ca∧vb=.slice (some ⟨gb,0,none⟩) nb cb:=by
 obtain ⟨ga,na,ca,gb,nb,cb,e1,e2,_⟩:=hT;exact ⟨ga,na,ca,gb,nb,cb,e1,e2⟩
theorem sX {t x x0 N:Nat}(h:x0=2 ^ t * x) (hx:0 < x) (hN:x0 < 4294967296 ^ N):t < 32 * N:=by
 have h1:2 ^ t≤x0:=by rw [h];exact Nat.le_mul_of_pos_right _ hx
 have h2:(4294967296:Nat) ^ N=2 ^ (32 * N):=by rw [Nat.pow_mul]
 rw [h2] at hN;exact (Nat.pow_lt_pow_iff_right (by omega)).1 (Nat.lt_of_le_of_lt h1 hN)
theorem xl {x y:Nat}(h:¬ (x % 2=0∧y % 2=0)):Nat.gcd x y % 2=1:=by
 rcases Nat.mod_two_eq_zero_or_one (Nat.gcd x y) with h1 | h1
 ·exfalso
  have h2:2 ∣ Nat.gcd x y:=Nat.dvd_of_mod_eq_zero h1;exact h ⟨Nat.mod_eq_zero_of_dvd (Nat.dvd_trans h2 (Nat.gcd_dvd_left x y)),Nat.mod_eq_zero_of_dvd (Nat.dvd_trans h2 (Nat.gcd_dvd_right x y))⟩
 exact h1
theorem jA {u v G:Nat}(h:Nat.gcd u v=G) (hG:G % 2=1) (hu:u % 2=0):Nat.gcd (u / 2) v=G:=by
 have hv:v % 2=1:=by
  rcases Nat.mod_two_eq_zero_or_one v with h1 | h1
  ·exfalso
   have h2:2 ∣ Nat.gcd u v:=Nat.dvd_gcd (Nat.dvd_of_mod_eq_zero hu) (Nat.dvd_of_mod_eq_zero h1);rw [h] at h2;have:=Nat.mod_eq_zero_of_dvd h2;omega
  exact h1
 rw [ml hu hv];exact h
theorem xn (w:World) (N:Nat) (hN:N≤1099511627000) (A n c l) (wa:Wd w A n c l) (hn:n≤N) (A' n' c' l') (wb:Wd w A' n' c' l') (hn':n'≤N) (h0:val l≠0) (h0':val l'≠0) :
 Calls Tryz.prog 214 #[.slice A n c,.slice A' n' c'] w (fw w (ap (Nat.gcd (val l) (val l')))):=by
 have hvl:=wa.vlt hn;have hvl':=wb.vlt hn';obtain ⟨x0,hx0⟩:∃ x,val l=x:=⟨_,rfl⟩;obtain ⟨y0,hy0⟩:∃ y,val l'=y:=⟨_,rfl⟩;rw [hx0] at hvl h0;rw [hy0] at hvl' h0';rw [hx0,hy0];have HX0:=Qh hx0;have HY0:=Qh hy0;have HVX:=Qh hvl;have HVY:=Qh hvl';have hxp:0 < x0:=by omega
 have hyp:0 < y0:=by omega
 clear hx0 hy0 hvl hvl' h0 h0';go_in;go_wp2_with fail;(with_reducible refine (jy _ A n c l ?_ ?_).mono ?_);(exact wa);(omega);rintro e w1 ⟨ga,na,ca,rfl,h1,hb1⟩;rw [HX0.out] at h1;go_wp2_with fail;(with_reducible refine (jy _ A' n' c' l' ?_ ?_).mono ?_);(exact wb.belw hb1);(omega);rintro e w2 ⟨gb,nb,cb,rfl,h2,hb2⟩;rw [HY0.out] at h2;have hg:ga≠gb:=by have:=h1.lt;have:=h2.base;omega
 have h1':OwS w2 w.heap.size ga na ca (ap x0):=by
  refine ⟨⟨h1.1.1,?_⟩,h1.2⟩;rcases h1.1.2 with ⟨e,_⟩ | ⟨g',cap',cur,e,hb,hgg,r⟩
  ·cases e
  exact .inr ⟨g',cap',cur,e,hb,(hb2.block g' (lt_of_block hgg)).trans hgg,r⟩
 have h2':OwS w2 w.heap.size gb nb cb (ap y0):=by
  refine ⟨⟨h2.1.1,?_⟩,h2.2⟩;rcases h2.1.2 with ⟨e,_⟩ | ⟨g',cap',cur,e,hb,r⟩
  ·cases e
  exact .inr ⟨g',cap',cur,e,Nat.le_trans hb1.size hb,r⟩
 have HT:=Qh (show Two w w2 N (.slice (some ⟨ga,0,none⟩) na ca) (.slice (some ⟨gb,0,none⟩) nb cb) x0 y0 from ⟨ga,na,ca,gb,nb,cb,rfl,rfl,h1',h2',hg,hb1.trans (hb2.mono hb1.size),HVX.out,HVY.out⟩);have ea:((na:Int) == 0)=false:=by have:=dA h1 hxp;simp;omega
 have eb:((nb:Int) == 0)=false:=by have:=dA h2 hyp;simp;omega
 clear h1 h2 h1' h2' hb1 hb2 hg;go_wp2_with fail;go_loopw [0,1,5] (fun va vb tv wr=>∃ (x y t:Nat),Two w wr N va vb x y∧tv=.int .i64 (t:Nat)∧0 < x∧0 < y∧x0=2 ^ t * x∧y0=2 ^ t * y) (fun va _ _ wr=>valOf wr va)
 case atStart=>exact ⟨x0,y0,0,HT.out,rfl,hxp,hyp,by simp,by simp⟩
 case round =>
  obtain ⟨x,y,t,hT,rfl,hx,hy,hex,hey⟩:=hrel;obtain ⟨ga,na,ca,gb,nb,cb,rfl,rfl⟩:=hT.form;have HT:=Qh hT;have hca:=fP hT.at_.1 hx;have hcb:=fP hT.at_.2.1 hy;have hna:=dA hT.at_.1 hx;have hnb:=dA hT.at_.2.1 hy;have hnaN:=fk hT.at_.1 hT.at_.2.2.2.2.1;have hnbN:=fk hT.at_.2.1 hT.at_.2.2.2.2.2;obtain ⟨p,hp⟩:∃ p,x % 4294967296=p:=⟨_,rfl⟩;obtain ⟨q,hq⟩:∃ q,y % 4294967296=q:=⟨_,rfl⟩;rw [hp] at hca;rw [hq] at hcb;have hp1:p < 4294967296:=by omega
  have hq1:q < 4294967296:=by omega
  have hpx:x % 2=p % 2:=by omega
  have hqy:y % 2=q % 2:=by omega
  have ht:t < 32 * N:=sX hex hx HVX.out;have HE:=Qh (And.intro hex hey);have HP:=Qh (And.intro hpx hqy);clear hex hey hp hq hpx hqy hT;by_cases hpe:p % 2=0∧q % 2=0
  ·have ea:=eZ hp1 hpe.1
   have eb:=eZ hq1 hpe.2;have HPE:=Qh hpe;clear hpe;go_wp2_with fail;(with_reducible refine (eR _ w.heap.size ga na ca (ap x) ?_ ?_).mono ?_);(exact HT.out.at_.1);(omega);rintro e w1 ⟨k1,rfl,o1,hon1⟩;have HT1:=Qh (HT.out.left o1.of_digs hon1 (Nat.div_le_self _ _));clear o1 hon1 hca hcb;go_wp2_with fail;(with_reducible refine (eR _ w.heap.size gb nb cb (ap y) ?_ ?_).mono ?_);(exact HT1.out.at_.2.1);(omega);rintro e w2 ⟨k2,rfl,o2,hon2⟩;have HT2:=Qh (HT1.out.swap.left o2.of_digs hon2 (Nat.div_le_self _ _)).swap;clear o2 hon2;go_wp2_with fail;go_roundw
   case rel =>
    have h1:x=2 * (x / 2):=by have:=HP.out.1;have:=HPE.out.1;omega
    have h2:y=2 * (y / 2):=by have:=HP.out.2;have:=HPE.out.2;omega
    exact ⟨x / 2,y / 2,t+1,HT2.out,by go_num,by omega,by omega,by rw [HE.out.1,Nat.pow_succ,Nat.mul_assoc,← h1],by rw [HE.out.2,Nat.pow_succ,Nat.mul_assoc,← h2]⟩
   case measure =>
    rw [bf HT2.out.at_.1,bf HT.out.at_.1];omega
  have hGo:Nat.gcd x y % 2=1:=xl (by intro h;exact hpe ⟨by have:=HP.out.1;omega,by have:=HP.out.2;omega⟩);obtain ⟨G,hG⟩:∃ G,Nat.gcd x y=G:=⟨_,rfl⟩;rw [hG] at hGo;have HG:=Qh (And.intro hG hGo);have hGp:0 < G:=by omega
  clear hG hGo;rcases (show p % 2=1∨(p % 2=0∧q % 2=1) by omega) with h1 | ⟨h1,h2⟩
  ·have ea:=ik hp1 h1
   clear hpe h1;go_wp2_with fail;clear ea
   try clear eb
   have e5:0 < nb:=hnb;clear hca hcb hp1 hq1 hna hnb hnaN hnbN;go_loopw [0,1] (fun va vb wr=>∃ (u v:Nat),Two w wr N va vb u v∧0 < v∧Nat.gcd u v=G) (fun va vb wr=>valOf wr va+valOf wr vb)
   case atStart=>exact ⟨x,y,HT.out,hy,HG.out.1⟩
   case round =>
    rename_i wr2;obtain ⟨u,v,hT2,hv,hgu⟩:=hrel;obtain ⟨ga2,na2,ca2,gb2,nb2,cb2,rfl,rfl⟩:=hT2.form;have HT2:=Qh hT2;have HGU:=Qh hgu;clear hT2 hgu;by_cases hu:u=0
    ·subst hu
     have e0:na2=0:=by rw [HT2.out.at_.1.len,aB];rfl
     subst e0;have HVG:=Qh (show v=G by have:=HGU.out;simpa using this);go_wp2_with fail;go_loopw [1,65] (fun vb iv wr=>∃ (j:Nat) (B:Option Addr) (m cc:Nat),vb=.slice B m cc∧Wd wr B m cc (ap (2 ^ j * G))∧m≤N∧iv=.int .i64 (j:Nat)∧j≤t∧Below w.heap.size w wr) (fun _ iv _=>t - (intOf iv).toNat)
     case atStart =>
      have:=HVG.out;subst this;exact ⟨0,_,_,_,rfl,by simpa using HT2.out.at_.2.1.toWd,fk HT2.out.at_.2.1 HT2.out.at_.2.2.2.2.2,rfl,Nat.zero_le _,HT2.out.at_.2.2.2.1⟩
     case round =>
      obtain ⟨j,B,m,cc,rfl,hw,hm,rfl,hj,hbl⟩:=hrel;have HW:=Qh hw;have HB:=Qh hbl;clear hw hbl;by_cases hlt:j < t
      ·go_wp2_with fail
       (with_reducible refine (lp _ B m cc (ap (2 ^ j * G)) ?_ ?_ B m cc (ap (2 ^ j * G)) ?_ ?_).mono ?_);(exact HW.out);(omega);(exact HW.out);(omega);rintro e w4 ⟨B',m',cc',rfl,h4,hb4⟩;have hz:val (ap (2 ^ j * G))+val (ap (2 ^ j * G))=2 ^ (j+1) * G:=by rw [ag,Nat.pow_succ];grind
       rw [hz] at h4;have HZ:=Qh hz;have H4:=Qh h4;clear hz h4;go_wp2_with fail;go_roundw
       case rel =>
        refine ⟨j+1,B',m',cc',rfl,H4.out,?_,by go_num,by omega,HB.out.trans (hb4.mono HB.out.size)⟩;rw [H4.out.2.1];refine aA (Nat.lt_of_le_of_lt ?_ HVX.out);rw [HE.out.1];refine Nat.le_trans (Nat.mul_le_mul_right G (Nat.pow_le_pow_right (by omega) (show j+1≤t by omega))) (Nat.mul_le_mul_left _ ?_);rw [← HG.out.1];exact Nat.gcd_le_left _ hx
       case measure=>simp [intOf];omega
      have hjt:j=t:=by omega
      subst hjt;go_wp2;go_ret;refine ⟨B,m,cc,rfl,?_,HB.out⟩;rw [HE.out.1,HE.out.2,Nat.gcd_mul_left,HG.out.1];exact HW.out
    have hup:0 < u:=by omega
    have hnap:=dA HT2.out.at_.1 hup;go_wp2_with fail;go_loopw [0] (fun va wr=>∃ (u':Nat),Two w wr N va (.slice (some ⟨gb2,0,none⟩) nb2 cb2) u' v∧0 < u'∧Nat.gcd u' v=G∧u'≤u) (fun va wr=>valOf wr va)
    case atStart=>exact ⟨u,HT2.out,hup,HGU.out,Qr⟩
    case round =>
     rename_i wr3;obtain ⟨u',hT3,hu',hgu3,hle3⟩:=hrel;obtain ⟨ga3,na3,ca3,_,_,_,rfl,_⟩:=hT3.form;have HT3:=Qh hT3;have HGU3:=Qh hgu3;have hc3:=fP hT3.at_.1 hu';have hn3:=dA hT3.at_.1 hu';have hn3N:=fk hT3.at_.1 hT3.at_.2.2.2.2.1;obtain ⟨p3,hp3⟩:∃ p,u' % 4294967296=p:=⟨_,rfl⟩;rw [hp3] at hc3;have hp31:p3 < 4294967296:=by omega
     have hpu:u' % 2=p3 % 2:=by omega
     clear hT3 hgu3 hp3;by_cases hpe3:p3 % 2=0
     ·have ea3:=eZ hp31 hpe3
      have HU2:=Qh (show u' % 2=0 by omega);clear hpe3 hpu;go_wp2_with fail;(with_reducible refine (eR _ w.heap.size ga3 na3 ca3 (ap u') ?_ ?_).mono ?_);(exact HT3.out.at_.1);(omega);rintro e w4 ⟨k4,rfl,o4,hon4⟩;have HT4:=Qh (HT3.out.left o4.of_digs hon4 (Nat.div_le_self _ _));clear o4 hon4 hc3;go_wp2_with fail;go_roundw
      case rel =>
       have:=HU2.out;exact ⟨u' / 2,HT4.out,by omega,jA HGU3.out HG.out.2 this,by omega⟩
      case measure =>
       rw [bf HT4.out.at_.1,bf HT3.out.at_.1];have:=HU2.out;omega
     have ea3:=ik hp31 (show p3 % 2=1 by omega);clear hpe3 hpu;go_wp2_with fail;clear ea3 hc3;go_loopw [1] (fun vb wr=>∃ (v':Nat),Two w wr N (.slice (some ⟨ga3,0,none⟩) na3 ca3) vb u' v'∧0 < v'∧Nat.gcd u' v'=G∧v'≤v) (fun vb wr=>valOf wr vb)
     case atStart=>exact ⟨v,HT3.out,hv,HGU3.out,Qr⟩
     case round =>
      rename_i wr5;obtain ⟨v',hT5,hv',hgu5,hle5⟩:=hrel;obtain ⟨_,_,_,gb5,nb5,cb5,_,rfl⟩:=hT5.form;have HT5:=Qh hT5;have HGU5:=Qh hgu5;have hc5:=fP hT5.at_.2.1 hv';have hn5:=dA hT5.at_.2.1 hv';have hn5N:=fk hT5.at_.2.1 hT5.at_.2.2.2.2.2;obtain ⟨p5,hp5⟩:∃ p,v' % 4294967296=p:=⟨_,rfl⟩;rw [hp5] at hc5;have hp51:p5 < 4294967296:=by omega
      have hpv:v' % 2=p5 % 2:=by omega
      clear hT5 hgu5 hp5;by_cases hpe5:p5 % 2=0
      ·have ea5:=eZ hp51 hpe5
       have HU2:=Qh (show v' % 2=0 by omega);clear hpe5 hpv;go_wp2_with fail;(with_reducible refine (eR _ w.heap.size gb5 nb5 cb5 (ap v') ?_ ?_).mono ?_);(exact HT5.out.at_.2.1);(omega);rintro e w6 ⟨k6,rfl,o6,hon6⟩;have HT6:=Qh (HT5.out.swap.left o6.of_digs hon6 (Nat.div_le_self _ _)).swap;clear o6 hon6 hc5;go_wp2_with fail;go_roundw
       case rel =>
        have:=HU2.out;exact ⟨v' / 2,HT6.out,by omega,by rw [Nat.gcd_comm];exact jA (by rw [Nat.gcd_comm];exact HGU5.out) HG.out.2 this,by omega⟩
       case measure =>
        rw [bf HT6.out.at_.2.1,bf HT5.out.at_.2.1];have:=HU2.out;omega
      have ea5:=ik hp51 (show p5 % 2=1 by omega);clear hpe5 hpv;go_wp2_with fail;clear ea5 hc5;(with_reducible refine (er _ (some ⟨ga3,0,none⟩) na3 ca3 (ap u') ?_ ?_ (some ⟨gb5,0,none⟩) nb5 cb5 (ap v') ?_ ?_).mono ?_);(exact HT5.out.at_.1.toWd);(omega);(exact HT5.out.at_.2.1.toWd);(omega);rintro e w6 ⟨rfl,hb6⟩;have HT6:=Qh (HT5.out.belw hb6);clear hb6;rw [ag,ag];by_cases hlt:u' < v'
      ·rw [show bA u' v'=-1 by unfold bA;rw [if_pos hlt]]
       have HLE:=Qh (Nat.le_of_lt hlt);clear hlt;go_wp2_with fail;(with_reducible refine (gM _ w.heap.size gb5 nb5 cb5 (ap v') ?_ ?_ (some ⟨ga3,0,none⟩) na3 ca3 (ap u') ?_ ?_ ?_ ?_).mono ?_);(exact HT6.out.at_.2.1);(omega);(exact HT6.out.at_.1.toWd);(intro ad e;injection e with e;subst e;exact HT6.out.at_.2.2.1);(rw [HT6.out.at_.2.1.len,HT6.out.at_.1.len];exact dT HLE.out);(rw [ag,ag];exact HLE.out);rintro e w7 ⟨L,rfl,o7,hv7,hon7⟩;rw [ag,ag] at hv7;have HV7:=Qh hv7;have HO7:=Qh o7;have HON7:=Qh hon7;clear hv7 o7 hon7;go_wp2_with fail;(with_reducible refine (jz _ w.heap.size gb5 nb5 cb5 L ?_ ?_).mono ?_);(exact HO7.out);(omega);rintro e w8 ⟨k8,rfl,o8,rfl⟩;rw [HV7.out] at o8;have HT8:=Qh (HT6.out.swap.left o8 HON7.out (Nat.sub_le _ _));clear o8;go_wp2_with fail;go_roundw
       case rel=>exact ⟨v' - u',u',HT8.out,hu',by rw [kL HLE.out];rw [Nat.gcd_comm];exact HGU5.out⟩
       case measure =>
        rw [bf HT8.out.at_.1,bf HT8.out.at_.2.1,bf HT2.out.at_.1,bf HT2.out.at_.2.1];have:=HLE.out;omega

      ·have hcn:decide (bA u' v' < 0)=false:=by unfold bA;rw [if_neg hlt];split <;> decide
       have HLE:=Qh (Nat.le_of_not_lt hlt);obtain ⟨cm,hcm⟩:∃ cm,bA u' v'=cm:=⟨_,rfl⟩;rw [hcm] at hcn ⊢;clear hlt hcm;go_wp2_with fail;(with_reducible refine (gM _ w.heap.size ga3 na3 ca3 (ap u') ?_ ?_ (some ⟨gb5,0,none⟩) nb5 cb5 (ap v') ?_ ?_ ?_ ?_).mono ?_);(exact HT6.out.at_.1);(omega);(exact HT6.out.at_.2.1.toWd);(intro ad e;injection e with e;subst e;exact Ne.symm HT6.out.at_.2.2.1);(rw [HT6.out.at_.1.len,HT6.out.at_.2.1.len];exact dT HLE.out);(rw [ag,ag];exact HLE.out);rintro e w7 ⟨L,rfl,o7,hv7,hon7⟩;rw [ag,ag] at hv7;have HV7:=Qh hv7;have HO7:=Qh o7;have HON7:=Qh hon7;clear hv7 o7 hon7;go_wp2_with fail;(with_reducible refine (jz _ w.heap.size ga3 na3 ca3 L ?_ ?_).mono ?_);(exact HO7.out);(omega);rintro e w8 ⟨k8,rfl,o8,rfl⟩;rw [HV7.out] at o8;have HT8:=Qh (HT6.out.left o8 HON7.out (Nat.sub_le _ _));clear o8;go_wp2_with fail;go_roundw
       case rel=>exact ⟨u' - v',v',HT8.out,hv',by rw [kL HLE.out];exact HGU5.out⟩
       case measure =>
        rw [bf HT8.out.at_.1,bf HT8.out.at_.2.1,bf HT2.out.at_.1,bf HT2.out.at_.2.1];have:=HLE.out;omega


  ·have ea:=eZ hp1 h1
   have eb:=ik hq1 h2;clear h2;clear hpe h1;go_wp2_with fail;clear ea
   try clear eb
   have e5:0 < nb:=hnb;clear hca hcb hp1 hq1 hna hnb hnaN hnbN;go_loopw [0,1] (fun va vb wr=>∃ (u v:Nat),Two w wr N va vb u v∧0 < v∧Nat.gcd u v=G) (fun va vb wr=>valOf wr va+valOf wr vb)
   case atStart=>exact ⟨x,y,HT.out,hy,HG.out.1⟩
   case round =>
    rename_i wr2;obtain ⟨u,v,hT2,hv,hgu⟩:=hrel;obtain ⟨ga2,na2,ca2,gb2,nb2,cb2,rfl,rfl⟩:=hT2.form;have HT2:=Qh hT2;have HGU:=Qh hgu;clear hT2 hgu;by_cases hu:u=0
    ·subst hu
     have e0:na2=0:=by rw [HT2.out.at_.1.len,aB];rfl
     subst e0;have HVG:=Qh (show v=G by have:=HGU.out;simpa using this);go_wp2_with fail;go_loopw [1,65] (fun vb iv wr=>∃ (j:Nat) (B:Option Addr) (m cc:Nat),vb=.slice B m cc∧Wd wr B m cc (ap (2 ^ j * G))∧m≤N∧iv=.int .i64 (j:Nat)∧j≤t∧Below w.heap.size w wr) (fun _ iv _=>t - (intOf iv).toNat)
     case atStart =>
      have:=HVG.out;subst this;exact ⟨0,_,_,_,rfl,by simpa using HT2.out.at_.2.1.toWd,fk HT2.out.at_.2.1 HT2.out.at_.2.2.2.2.2,rfl,Nat.zero_le _,HT2.out.at_.2.2.2.1⟩
     case round =>
      obtain ⟨j,B,m,cc,rfl,hw,hm,rfl,hj,hbl⟩:=hrel;have HW:=Qh hw;have HB:=Qh hbl;clear hw hbl;by_cases hlt:j < t
      ·go_wp2_with fail
       (with_reducible refine (lp _ B m cc (ap (2 ^ j * G)) ?_ ?_ B m cc (ap (2 ^ j * G)) ?_ ?_).mono ?_);(exact HW.out);(omega);(exact HW.out);(omega);rintro e w4 ⟨B',m',cc',rfl,h4,hb4⟩;have hz:val (ap (2 ^ j * G))+val (ap (2 ^ j * G))=2 ^ (j+1) * G:=by rw [ag,Nat.pow_succ];grind
       rw [hz] at h4;have HZ:=Qh hz;have H4:=Qh h4;clear hz h4;go_wp2_with fail;go_roundw
       case rel =>
        refine ⟨j+1,B',m',cc',rfl,H4.out,?_,by go_num,by omega,HB.out.trans (hb4.mono HB.out.size)⟩;rw [H4.out.2.1];refine aA (Nat.lt_of_le_of_lt ?_ HVX.out);rw [HE.out.1];refine Nat.le_trans (Nat.mul_le_mul_right G (Nat.pow_le_pow_right (by omega) (show j+1≤t by omega))) (Nat.mul_le_mul_left _ ?_);rw [← HG.out.1];exact Nat.gcd_le_left _ hx
       case measure=>simp [intOf];omega
      have hjt:j=t:=by omega
      subst hjt;go_wp2;go_ret;refine ⟨B,m,cc,rfl,?_,HB.out⟩;rw [HE.out.1,HE.out.2,Nat.gcd_mul_left,HG.out.1];exact HW.out
    have hup:0 < u:=by omega
    have hnap:=dA HT2.out.at_.1 hup;go_wp2_with fail;go_loopw [0] (fun va wr=>∃ (u':Nat),Two w wr N va (.slice (some ⟨gb2,0,none⟩) nb2 cb2) u' v∧0 < u'∧Nat.gcd u' v=G∧u'≤u) (fun va wr=>valOf wr va)
    case atStart=>exact ⟨u,HT2.out,hup,HGU.out,Qr⟩
    case round =>
     rename_i wr3;obtain ⟨u',hT3,hu',hgu3,hle3⟩:=hrel;obtain ⟨ga3,na3,ca3,_,_,_,rfl,_⟩:=hT3.form;have HT3:=Qh hT3;have HGU3:=Qh hgu3;have hc3:=fP hT3.at_.1 hu';have hn3:=dA hT3.at_.1 hu';have hn3N:=fk hT3.at_.1 hT3.at_.2.2.2.2.1;obtain ⟨p3,hp3⟩:∃ p,u' % 4294967296=p:=⟨_,rfl⟩;rw [hp3] at hc3;have hp31:p3 < 4294967296:=by omega
     have hpu:u' % 2=p3 % 2:=by omega
     clear hT3 hgu3 hp3;by_cases hpe3:p3 % 2=0
     ·have ea3:=eZ hp31 hpe3
      have HU2:=Qh (show u' % 2=0 by omega);clear hpe3 hpu;go_wp2_with fail;(with_reducible refine (eR _ w.heap.size ga3 na3 ca3 (ap u') ?_ ?_).mono ?_);(exact HT3.out.at_.1);(omega);rintro e w4 ⟨k4,rfl,o4,hon4⟩;have HT4:=Qh (HT3.out.left o4.of_digs hon4 (Nat.div_le_self _ _));clear o4 hon4 hc3;go_wp2_with fail;go_roundw
      case rel =>
       have:=HU2.out;exact ⟨u' / 2,HT4.out,by omega,jA HGU3.out HG.out.2 this,by omega⟩
      case measure =>
       rw [bf HT4.out.at_.1,bf HT3.out.at_.1];have:=HU2.out;omega
     have ea3:=ik hp31 (show p3 % 2=1 by omega);clear hpe3 hpu;go_wp2_with fail;clear ea3 hc3;go_loopw [1] (fun vb wr=>∃ (v':Nat),Two w wr N (.slice (some ⟨ga3,0,none⟩) na3 ca3) vb u' v'∧0 < v'∧Nat.gcd u' v'=G∧v'≤v) (fun vb wr=>valOf wr vb)
     case atStart=>exact ⟨v,HT3.out,hv,HGU3.out,Qr⟩
     case round =>
      rename_i wr5;obtain ⟨v',hT5,hv',hgu5,hle5⟩:=hrel;obtain ⟨_,_,_,gb5,nb5,cb5,_,rfl⟩:=hT5.form;have HT5:=Qh hT5;have HGU5:=Qh hgu5;have hc5:=fP hT5.at_.2.1 hv';have hn5:=dA hT5.at_.2.1 hv';have hn5N:=fk hT5.at_.2.1 hT5.at_.2.2.2.2.2;obtain ⟨p5,hp5⟩:∃ p,v' % 4294967296=p:=⟨_,rfl⟩;rw [hp5] at hc5;have hp51:p5 < 4294967296:=by omega
      have hpv:v' % 2=p5 % 2:=by omega
      clear hT5 hgu5 hp5;by_cases hpe5:p5 % 2=0
      ·have ea5:=eZ hp51 hpe5
       have HU2:=Qh (show v' % 2=0 by omega);clear hpe5 hpv;go_wp2_with fail;(with_reducible refine (eR _ w.heap.size gb5 nb5 cb5 (ap v') ?_ ?_).mono ?_);(exact HT5.out.at_.2.1);(omega);rintro e w6 ⟨k6,rfl,o6,hon6⟩;have HT6:=Qh (HT5.out.swap.left o6.of_digs hon6 (Nat.div_le_self _ _)).swap;clear o6 hon6 hc5;go_wp2_with fail;go_roundw
       case rel =>
        have:=HU2.out;exact ⟨v' / 2,HT6.out,by omega,by rw [Nat.gcd_comm];exact jA (by rw [Nat.gcd_comm];exact HGU5.out) HG.out.2 this,by omega⟩
       case measure =>
        rw [bf HT6.out.at_.2.1,bf HT5.out.at_.2.1];have:=HU2.out;omega
      have ea5:=ik hp51 (show p5 % 2=1 by omega);clear hpe5 hpv;go_wp2_with fail;clear ea5 hc5;(with_reducible refine (er _ (some ⟨ga3,0,none⟩) na3 ca3 (ap u') ?_ ?_ (some ⟨gb5,0,none⟩) nb5 cb5 (ap v') ?_ ?_).mono ?_);(exact HT5.out.at_.1.toWd);(omega);(exact HT5.out.at_.2.1.toWd);(omega);rintro e w6 ⟨rfl,hb6⟩;have HT6:=Qh (HT5.out.belw hb6);clear hb6;rw [ag,ag];by_cases hlt:u' < v'
      ·rw [show bA u' v'=-1 by unfold bA;rw [if_pos hlt]]
       have HLE:=Qh (Nat.le_of_lt hlt);clear hlt;go_wp2_with fail;(with_reducible refine (gM _ w.heap.size gb5 nb5 cb5 (ap v') ?_ ?_ (some ⟨ga3,0,none⟩) na3 ca3 (ap u') ?_ ?_ ?_ ?_).mono ?_);(exact HT6.out.at_.2.1);(omega);(exact HT6.out.at_.1.toWd);(intro ad e;injection e with e;subst e;exact HT6.out.at_.2.2.1);(rw [HT6.out.at_.2.1.len,HT6.out.at_.1.len];exact dT HLE.out);(rw [ag,ag];exact HLE.out);rintro e w7 ⟨L,rfl,o7,hv7,hon7⟩;rw [ag,ag] at hv7;have HV7:=Qh hv7;have HO7:=Qh o7;have HON7:=Qh hon7;clear hv7 o7 hon7;go_wp2_with fail;(with_reducible refine (jz _ w.heap.size gb5 nb5 cb5 L ?_ ?_).mono ?_);(exact HO7.out);(omega);rintro e w8 ⟨k8,rfl,o8,rfl⟩;rw [HV7.out] at o8;have HT8:=Qh (HT6.out.swap.left o8 HON7.out (Nat.sub_le _ _));clear o8;go_wp2_with fail;go_roundw
       case rel=>exact ⟨v' - u',u',HT8.out,hu',by rw [kL HLE.out];rw [Nat.gcd_comm];exact HGU5.out⟩
       case measure =>
        rw [bf HT8.out.at_.1,bf HT8.out.at_.2.1,bf HT2.out.at_.1,bf HT2.out.at_.2.1];have:=HLE.out;omega

      ·have hcn:decide (bA u' v' < 0)=false:=by unfold bA;rw [if_neg hlt];split <;> decide
       have HLE:=Qh (Nat.le_of_not_lt hlt);obtain ⟨cm,hcm⟩:∃ cm,bA u' v'=cm:=⟨_,rfl⟩;rw [hcm] at hcn ⊢;clear hlt hcm;go_wp2_with fail;(with_reducible refine (gM _ w.heap.size ga3 na3 ca3 (ap u') ?_ ?_ (some ⟨gb5,0,none⟩) nb5 cb5 (ap v') ?_ ?_ ?_ ?_).mono ?_);(exact HT6.out.at_.1);(omega);(exact HT6.out.at_.2.1.toWd);(intro ad e;injection e with e;subst e;exact Ne.symm HT6.out.at_.2.2.1);(rw [HT6.out.at_.1.len,HT6.out.at_.2.1.len];exact dT HLE.out);(rw [ag,ag];exact HLE.out);rintro e w7 ⟨L,rfl,o7,hv7,hon7⟩;rw [ag,ag] at hv7;have HV7:=Qh hv7;have HO7:=Qh o7;have HON7:=Qh hon7;clear hv7 o7 hon7;go_wp2_with fail;(with_reducible refine (jz _ w.heap.size ga3 na3 ca3 L ?_ ?_).mono ?_);(exact HO7.out);(omega);rintro e w8 ⟨k8,rfl,o8,rfl⟩;rw [HV7.out] at o8;have HT8:=Qh (HT6.out.left o8 HON7.out (Nat.sub_le _ _));clear o8;go_wp2_with fail;go_roundw
       case rel=>exact ⟨u' - v',v',HT8.out,hv',by rw [kL HLE.out];exact HGU5.out⟩
       case measure =>
        rw [bf HT8.out.at_.1,bf HT8.out.at_.2.1,bf HT2.out.at_.1,bf HT2.out.at_.2.1];have:=HLE.out;omega


theorem rJ (w:World) (A n c l) (wa:Wd w A n c l) (hn:n≤1099511627000) (A' n' c' l') (wb:Wd w A' n' c' l') (hn':n'≤1099511627000) (h0:val l=0∨val l'=0) :
 Calls Tryz.prog 214 #[.slice A n c,.slice A' n' c'] w (fw w (ap (Nat.gcd (val l) (val l')))):=by
 have H0:=Qh h0;clear h0;go_in;go_wp2_with fail;(with_reducible refine (jy _ A n c l ?_ ?_).mono ?_);(exact wa);(omega);rintro e w1 ⟨ga,na,ca,rfl,h1,hb1⟩;go_wp2_with fail;(with_reducible refine (jy _ A' n' c' l' ?_ ?_).mono ?_);(exact wb.belw hb1);(omega);rintro e w2 ⟨gb,nb,cb,rfl,h2,hb2⟩;have HB:=Qh (hb1.trans (hb2.mono hb1.size));have H1:=Qh (h1.belw hb2);have H2:=Qh h2;have hna:=h1.len;have hnb:=h2.len;clear h1 h2 hb1 hb2;by_cases hz:val l=0
 ·have e:na=0:=by rw [hna,hz,aB];rfl
  have HG:=Qh (show ap (Nat.gcd (val l) (val l'))=ap (val l') by rw [hz,Nat.gcd_zero_left]);subst e;clear hna hnb hz;go_wp2;go_ret;exact ⟨_,_,_,rfl,by rw [HG.out];exact H2.out.toWd,HB.out⟩
 have hz2:val l'=0:=H0.out.resolve_left hz;have e:nb=0:=by rw [hnb,hz2,aB];rfl
 have hp:0 < na:=by
  rw [hna];rcases Nat.eq_zero_or_pos (ap (val l)).length with h | h
  ·exact absurd (bu.1 (List.eq_nil_of_length_eq_zero h)) hz
  exact h
 have e1:((na:Int) == 0)=false:=by simp;omega
 have HG:=Qh (show ap (Nat.gcd (val l) (val l'))=ap (val l) by rw [hz2,Nat.gcd_zero_right]);subst e;clear hna hnb hz hz2;go_wp2;go_ret;exact ⟨_,_,_,rfl,by rw [HG.out];exact H1.out.toWd,HB.out⟩
theorem sY (w:World) (A n c l) (wa:Wd w A n c l) (hn:n≤1099511627000) (A' n' c' l') (wb:Wd w A' n' c' l') (hn':n'≤1099511627000) :
 Calls Tryz.prog 214 #[.slice A n c,.slice A' n' c'] w (fw w (ap (Nat.gcd (val l) (val l')))):=by
 by_cases h:val l=0
 ·exact rJ w A n c l wa hn A' n' c' l' wb hn' (.inl h)
 by_cases h':val l'=0
 ·exact rJ w A n c l wa hn A' n' c' l' wb hn' (.inr h')
 exact xn w 1099511627000 Qr A n c l wa hn A' n' c' l' wb hn' h h'
theorem xo {w w':World}{A:Option Addr}{n c:Nat}{l:List Nat}{A':Option Addr}{n' c':Nat}{l':List Nat}{N:Nat}(h:Wd w A n c l) (h':Wd w' A' n' c' l') (hn:n≤N) (hn':n'≤N):(ap (Nat.gcd (val l) (val l'))).length≤N:=aA (qD (h.vlt hn) (h'.vlt hn'))
theorem xp (w:World) (b:Bool) (A n c l) (wa:Wd w A n c l) (hn:n≤1099511627000) (b':Bool) (A' n' c' l') (wb:Wd w A' n' c' l') (hn':n'≤1099511627000) :
 Calls Tryz.prog 172 #[.agg #[.bool b,.slice A n c],.agg #[.bool b',.slice A' n' c']] w (iR w (wh (Nat.gcd (WD.z ⟨b,l⟩).natAbs (WD.z ⟨b',l'⟩).natAbs:Nat))):=by
 have HL:=Qh wa.2.1;have HL':=Qh wb.2.1;rw [mT,mT];go_in;go_wp2_with fail;have b0:Below w.heap.size w (((w.alloc (.cells #[.bool b,.slice A n c] 194)).alloc (.cells #[.bool b',.slice A' n' c'] 194)).alloc (.cells #[.bool false,.slice none 0 0] 194)):=((((Below.refl _ _).alloc Qr _).alloc (by simp) _).alloc (by simp;omega) _);generalize hW0:(((w.alloc (.cells #[.bool b,.slice A n c] 194)).alloc (.cells #[.bool b',.slice A' n' c'] 194)).alloc (.cells #[.bool false,.slice none 0 0] 194))=W0 at b0 ⊢;have c00:W0.cell? ⟨w.heap.size,0,none⟩=some (.bool b):=by subst hW0;simp [go_sem]
 have f00:W0.frozen? ⟨w.heap.size,0,none⟩=false:=by subst hW0;simp [go_sem]
 have c01:W0.cell? ⟨w.heap.size,1,none⟩=some (.slice A n c):=by subst hW0;simp [go_sem]
 have f01:W0.frozen? ⟨w.heap.size,1,none⟩=false:=by subst hW0;simp [go_sem]
 have c10:W0.cell? ⟨w.heap.size+1,0,none⟩=some (.bool b'):=by subst hW0;simp [go_sem]
 have f10:W0.frozen? ⟨w.heap.size+1,0,none⟩=false:=by subst hW0;simp [go_sem]
 have c11:W0.cell? ⟨w.heap.size+1,1,none⟩=some (.slice A' n' c'):=by subst hW0;simp [go_sem]
 have f11:W0.frozen? ⟨w.heap.size+1,1,none⟩=false:=by subst hW0;simp [go_sem]
 have c20:W0.cell? ⟨w.heap.size+1+1,0,none⟩=some (.bool false):=by subst hW0;simp [go_sem]
 have f20:W0.frozen? ⟨w.heap.size+1+1,0,none⟩=false:=by subst hW0;simp [go_sem]
 have c21:W0.cell? ⟨w.heap.size+1+1,1,none⟩=some (.slice none 0 0):=by subst hW0;simp [go_sem]
 have f21:W0.frozen? ⟨w.heap.size+1+1,1,none⟩=false:=by subst hW0;simp [go_sem]
 have x0:Box W0 w.heap.size 194:=by subst hW0;exact ((bB _ _ _ (by simp)).alloc _).alloc _
 have x1:Box W0 (w.heap.size+1) 194:=by subst hW0;exact (bB _ _ _ (by simp)).alloc _
 have x2:Box W0 (w.heap.size+1+1) 194:=by subst hW0;exact bB _ _ _ (by simp)
 have hm0:iZ (w.heap.size+1+1) (w.heap.size+1+1+1) 2 W0:=by subst hW0;exact lf (by simp)
 have hs0:w.heap.size+1+1+1≤W0.heap.size:=by subst hW0;simp
 clear hW0;have wa:=wa.belw b0;have wb:=wb.belw b0;have r0:Below W0.heap.size W0 W0:=aa _;have hRB:w.heap.size+1+1≤w.heap.size+1+1+1:=by omega
 go_region_held3 (fun w'=>Sees (w.heap.size+1+1) W0 w') (first | exact Sees.of (Nat.le_trans hRB hs0) (by assumption) | exact Sees.of (Nat.le_trans hRB hs0) (af (by assumption) _) | exact (Sees.set (Sees.of (Nat.le_trans hRB hs0) (by assumption)) (by simp)) | exact (Sees.set (Sees.set (Sees.of (Nat.le_trans hRB hs0) (by assumption)) (by simp)) (by simp)))
  (first
   | (go_at_call 215;(with_reducible refine (dy _ b A n c l ?_ ?_).mono ?_);(exact wa);(omega);rintro e w1 ⟨A1,n1,c1,rfl,h1,hb1⟩;replace hb1:=ak (af (aa _) 1) hb1;have r1:=ak r0 hb1;replace wa:=wa.belw hb1;replace wb:=wb.belw hb1)
   | (go_at_call 215;(with_reducible refine (dy _ b' A' n' c' l' ?_ ?_).mono ?_);(exact wb);(omega);rintro e w2 ⟨A2,n2,c2,rfl,h2,hb2⟩;have r2:=ak r1 hb2;replace wa:=wa.belw hb2;replace wb:=wb.belw hb2;replace h1:=h1.belw hb2)
   | (go_at_call 214;(with_reducible refine (sY _ A1 n1 c1 (WD.m ⟨b,l⟩) ?_ ?_ A2 n2 c2 (WD.m ⟨b',l'⟩) ?_ ?_).mono ?_);(exact h1);(exact h1.m_len (by rw [← HL.out];exact hn));(exact h2);(exact h2.m_len (by rw [← HL'.out];exact hn'));rintro e w3 ⟨A3,n3,c3,rfl,h3,hb3⟩;have r3:=ak r2 hb3;replace wa:=wa.belw hb3;replace wb:=wb.belw hb3;replace h1:=h1.belw hb3;replace h2:=h2.belw hb3)
   | (go_at_call 213;(with_reducible refine (dz _ false A3 n3 c3 (ap (Nat.gcd (val (WD.m ⟨b,l⟩)) (val (WD.m ⟨b',l'⟩)))) (Nat.gcd (val (WD.m ⟨b,l⟩)) (val (WD.m ⟨b',l'⟩)):Nat) ?_ ?_ ?_).mono ?_);(exact h3);(rw [h3.2.1];exact xo h1 h2 (Nat.le_trans (h1.m_len (by rw [← HL.out];exact hn)) (by decide)) (Nat.le_trans (h2.m_len (by rw [← HL'.out];exact hn')) (by decide)));(rw [ag];rfl);rintro e w4 ⟨A4,n4,c4,rfl,h4,hb4⟩;have r4:=ak r3 hb4;replace wa:=wa.belw hb4;replace wb:=wb.belw hb4;replace h1:=h1.belw hb4;replace h2:=h2.belw hb4;replace h3:=h3.belw hb4;obtain ⟨⟨sc,sf⟩,sr,sz⟩:=bm.of (by omega) hs0 hm0 r4))
 clear hRB;go_wp2_with fail;refine bodyPost_ret (v:=.agg #[.bool _,.slice A4 n4 c4]) (by simp [results,Tryz.results172,go_sem,sr];rfl) rfl ?_;have x:=x2.below r4;refine jm ?_ ?_ ?_
 ·rfl
 ·exact h4.keep (kp2 x (by decide) _ _ _ _)
 exact ((b0.trans (r4.mono b0.size)).setCell (by dsimp only;omega) _).setCell (by dsimp only;omega) _
theorem rK (w:World) (b A n c z k) (h:IZ w b A n c z k) (b' A' n' c' z' k') (h':IZ w b' A' n' c' z' k') (hk:k+k'≤1000000000):Calls Tryz.prog 172 #[.agg #[.bool b,.slice A n c],.agg #[.bool b',.slice A' n' c']] w (jc w (Nat.gcd z.natAbs z'.natAbs:Nat) (k+k')):=by
 have hz:=h.mono (Nat.le_add_right k k') |>.lt
 have hz':=h'.mono (Nat.le_add_left k' k) |>.lt
 obtain ⟨l,h1,rfl,h3⟩:=h;obtain ⟨l',h1',rfl,h3'⟩:=h';exact (xp w b A n c l h1 (by omega) b' A' n' c' l' h1' (by omega)).mono fun _ _ r=>r.i (by simpa using qD hz hz')
theorem uT (w:World)  :
 Calls Tryz.prog 173 #[] w (jc w 1 1):=by
 go_in;go_wp2_with fail;(with_reducible refine (rI _ (1) ?_ ?_).mono ?_);(omega);(omega);rintro e w1 ⟨b1,A1,n1,c1,rfl,h1,hb1⟩;have q1:=hb1.q1;have x1a:Blk w1 w.heap.size 194 #[.bool false,.slice none 0 0]:=(ah _ _ _ (by simp)).below hb1 (by simp);have bw1:=(aa w).trans (q1.mono (aa w).size);have lw1:=hb1.l1;clear q1;have cx1a:=x1a.c2;have fx1a:=x1a.f2;have lx1a:=fM x1a.lt;go_wp2_with fail;refine bodyPost_ret (v:=.agg #[.bool b1,.slice A1 n1 c1]) (by simp [results,Tryz.results173,go_sem, *] <;> trivial) rfl ?_;exact ⟨b1,A1,n1,c1,rfl,h1.keep (((Kp.refl w1).sb w.heap.size 0 x1a.box (by decide) (.bool b1)).sb w.heap.size 1 (x1a.box.set ⟨w.heap.size,0,none⟩ (.bool b1)) (by decide) (.slice A1 n1 c1)),((bw1.sc w.heap.size 0 (by omega) (.bool b1)).sc w.heap.size 1 (by omega) (.slice A1 n1 c1))⟩
theorem sZ (w:World) (b A n c z k) (h:IZ w b A n c z k) (b' A' n' c' z' k') (h':IZ w b' A' n' c' z' k') (s:Int) (hs:fN z z'=s) (hk:k+k'≤999999999) :
 Calls Tryz.prog 171 #[.agg #[.bool b,.slice A n c],.agg #[.bool b',.slice A' n' c']] w (av w (.int .i64 s)):=by subst hs;exact xk w b A n c z k h b' A' n' c' z' k' h' hk

def fB (l:List Nat):Bool:=l != [] && last0 l
theorem xq {l:List Nat}(h:l≠[]):fB l=last0 l:=by unfold fB;have:(l != [])=true:=bne_iff_ne.2 h;rw [this];rfl
theorem mY (w:World) (A:Option Addr) (n c:Nat) (l:List Nat) (v:Bool) (h:Wd w A n c l) (hv:fB l=v) (hn:n≤1000000000) :
 Calls Tryz.prog 170 #[.slice A n c] w (av w (.bool v)):=by
 have HL:=Qh h.2.1;have HV:=Qh hv;clear hv;by_cases h0:n=0
 ·subst h0
  have hl:l=[]:=List.eq_nil_of_length_eq_zero HL.out.symm;have HE:=Qh (show v=false by rw [← HV.out,hl];rfl);clear hl;go_in;go_wp2;go_ret;exact bj HE.out.symm (Below.refl _ _)
 obtain ⟨g,o,rfl,hgl,hc⟩:=h.at2 (by omega);have hck:=hc (n - 1) (by omega);have hlt:=h.lt (n - 1);have hne:l≠[]:=by rintro rfl;have:=HL.out;simp at this;omega
 have he:v=(wd l (n - 1) != 0):=by rw [← HV.out,xq hne];unfold last0;rw [← HL.out]
 have HE:=Qh he;have hp:0 < n:=by omega
 clear hc h0 he hne;generalize hgx:wd l (n - 1)=x at *;clear hgx;go_in;go_wp2;go_ret;refine bj ?_ (Below.refl _ _);rw [HE.out];by_cases hz:x=0
 ·subst hz;rfl
 have h1:(x != 0)=true:=bne_iff_ne.2 hz;have h2:((x:Int) != 0)=true:=bne_iff_ne.2 (by omega)
 first | rw [h1,h2] | simp [hz]
theorem AG {w:World}{b:Bool}{A:Option Addr}{n c:Nat}{D:Option Addr}{m e:Nat}{a:RD}{k:Nat}(h:QD w b A n c D m e a k) (h0:0 < n∨0 < m):a.ok=(fB a.num && fB a.den && Nat.gcd (val a.num) (val a.den) == 1):=by
 unfold RD.ok fB;rw [if_neg (by intro x;rcases h0 with h1 | h1;exact h.num_ne h1 x.1;exact h.den_ne_ h1 x.2)];cases (a.num != []) <;> cases (a.den != []) <;> cases (last0 a.num) <;> cases (last0 a.den) <;> simp
theorem po {l:List Nat}(h:fB l=true):WD.ok ⟨false,l⟩=true:=by
 unfold fB at h;have h1:l≠[]:=by rintro rfl;exact absurd h (by decide)
 rw [uM h1];exact ((Bool.and_eq_true _ _).mp h).2
theorem ta (w:World) (b A n c D m e a k) (h:QD w b A n c D m e a k) (hk:k≤300000000) (h1:n=0) (h2:m=0) :
 Calls Tryz.prog 135 #[.agg #[.bool b,.slice A n c,.slice D m e]] w (av w (.bool a.ok)):=by
 have HR:=Qh (show a.ok=!b from yw h h1 h2);have HK:=Qh hk;subst h1 h2;clear h hk;go_in;go_wp2;go_ret;exact bj (by rw [HR.out]) ((Below.refl _ _).alloc Qr _)
theorem xt (w:World) (b A n c D m e a k) (h:QD w b A n c D m e a k) (hk:k≤300000000):Calls Tryz.prog 135 #[.agg #[.bool b,.slice A n c,.slice D m e]] w (av w (.bool a.ok)):=by
 by_cases h0:n=0∧m=0
 ·exact ta w b A n c D m e a k h hk h0.1 h0.2
 have hok:=AG h (by omega);have hnk:=h.2.2.2.1;have hmk:=h.2.2.2.2;obtain ⟨u,hu⟩:∃ u,fB a.num=u:=⟨_,rfl⟩;obtain ⟨v,hv⟩:∃ v,fB a.den=v:=⟨_,rfl⟩;rw [hok,hu,hv];have HU:=Qh hu;have HV:=Qh hv;have H:=Qh h;clear hok hu hv h;go_in;go_upto_region 1 with fail;refine ef ?_;intro w1 hw1;have x1:Blk w1 w.heap.size 65 #[.bool b,.slice A n c,.slice D m e]:=by rw [hw1];exact Blk.new w _ _
 have bw1:Below w.heap.size w w1:=by rw [hw1];exact (aa w).alloc Qr _
 clear hw1;have y:=x1.v3;go_cut [12] (fun s12 wx=>s12=.bool false∧Blk wx w.heap.size 65 #[.bool b,.slice A n c,.slice D m e]∧Below w.heap.size w wx)
 case first =>
  rcases Nat.eq_zero_or_pos n with h1 | h1
  ·have e1:((n:Int) == 0)=true:=by simp [h1]
   have e2:((m:Int) == 0)=false:=by simp;omega
   go_wp2_with fail;go_meet;exact ⟨rfl,x1,bw1⟩
  have e1:((n:Int) == 0)=false:=by simp;omega
  go_wp2_with fail;go_meet;exact ⟨rfl,x1,bw1⟩
 case rest =>
  clear x1 bw1 y h0;obtain ⟨rfl,x1,bw1⟩:=hcut;have y:=x1.v3;go_wp2_with fail;(refine (mY _ A n c a.num u (H.out.2.1.belw bw1) HU.out (by omega)).mono ?_);rintro e w3 ⟨rfl,hb3⟩;replace bw1:=bw1.trans (hb3.mono bw1.size);replace x1:=x1.b hb3;clear hb3 y;cases u
  ·go_wp2
   go_ret;exact ⟨rfl,bw1⟩
  have y:=x1.v3;go_wp2_with fail;(refine (mY _ D m e a.den v (H.out.2.2.1.belw bw1) HV.out (by omega)).mono ?_);rintro e' w4 ⟨rfl,hb4⟩;replace bw1:=bw1.trans (hb4.mono bw1.size);replace x1:=x1.b hb4;clear hb4 y;cases v
  ·go_wp2
   go_ret;exact ⟨rfl,bw1⟩
  have hN:=(H.out.num_z (po HU.out)).belw bw1;have hD:=(H.out.den_z (po HV.out)).belw bw1;have y:=x1.v3;go_wp2_with fail;(refine (rK _ false A n c _ k hN false D m e _ k hD (by omega)).mono ?_);rintro e' w5 ⟨b9,A9,n9,c9,rfl,h9,hb5⟩;replace bw1:=bw1.trans (hb5.mono bw1.size);clear hb5 y hN hD x1;go_wp2_with fail;(refine (uT _).mono ?_);rintro e' w6 ⟨b8,A8,n8,c8,rfl,h8,hb6⟩;replace bw1:=bw1.trans (hb6.mono bw1.size);replace h9:=h9.belw hb6;clear hb6;obtain ⟨s,hs⟩:∃ s,fN ((Nat.gcd ((val a.num:Int)).natAbs ((val a.den:Int)).natAbs:Nat)) 1=s:=⟨_,rfl⟩;have HS:=Qh hs;clear hs;go_wp2_with fail;(refine (sZ _ b9 A9 n9 c9 _ (k+k) h9.iz b8 A8 n8 c8 1 1 h8.iz s HS.out (by omega)).mono ?_);rintro e' w7 ⟨rfl,hb7⟩;go_wp2;go_ret;exact bj (rG HS.out rfl) (bw1.trans (hb7.mono bw1.size))

section
variable {w:World}{b:Bool}{A:Option Addr}{n c:Nat}{D:Option Addr}{m e:Nat}{a:RD}{k:Nat}
theorem yy (h:a.ok=false∨a.num=[]):a.q.num=0∧(a.q.den:Int)=1:=by
 have e1:(a.ok && a.num != [])=false:=by rcases h with h | h <;> simp [h]
 have e2:a.q=0:=by unfold RD.q RD.n RD.d;rw [e1];simp
 rw [e2];exact ⟨rfl,rfl⟩
theorem AH (hn:Wds a.num) (hd:Wds a.den) (ho:a.ok=true) (h0:a.num≠[]):a.num=(wh a.q.num).mag∧a.neg=(wh a.q.num).neg∧a.den=(wh (a.q.den:Int)).mag:=by
 have h1:=jl hn hd ho
 have h2:a.q.num≠0:=by
  intro e;have:(rd a.q).num=[]:=by unfold rd;simp [e,aB]
  rw [h1] at this;exact h0 this
 have h3:(rd a.q).den=ap a.q.den:=by unfold rd;simp [h2]
 refine ⟨?_,?_,?_⟩
 ·have:(rd a.q).num=ap a.q.num.natAbs:=rfl
  rw [h1] at this;exact this
 ·have:(rd a.q).neg=decide (a.q.num < 0):=rfl
  rw [h1] at this;exact this
 rw [h1] at h3;exact h3
theorem uU (h:QD w b A n c D m e a k) (ho:a.ok=true) (h0:a.num≠[]):0 < m:=by
 rcases Nat.eq_zero_or_pos m with h1 | h1
 ·have e2:a.den=[]:=List.eq_nil_of_length_eq_zero (by rw [← h.2.2.1.2.1,h1])
  unfold RD.ok at ho;rw [if_neg (by intro x;exact h0 x.1)] at ho;simp [e2] at ho
 exact h1
end
abbrev cE (G g2 g3:Nat) (v0 v1:Value) (W0 W:World):Prop:=((∀ b o,b < G→b≠g2→b≠g3→W.cell? ⟨b,o,none⟩=W0.cell? ⟨b,o,none⟩)∧(∀ b o,b < G→W.frozen? ⟨b,o,none⟩=W0.frozen? ⟨b,o,none⟩))∧G≤W.heap.size∧W.cell? ⟨g2,0,none⟩=some v0∧W.cell? ⟨g2,1,none⟩=some v1
theorem cE.of {G g2 g3:Nat}{v0 v1:Value}{W0 W:World}(h:G≤W0.heap.size) (hb:Below W0.heap.size W0 W) (hg:g2 < W0.heap.size) (h0:W0.cell? ⟨g2,0,none⟩=some v0) (h1:W0.cell? ⟨g2,1,none⟩=some v1):cE G g2 g3 v0 v1 W0 W :=
 ⟨⟨fun b o hlt _ _=>(ct hb).1 b o (Nat.lt_of_lt_of_le hlt h),fun b o hlt=>(ct hb).2 b o (Nat.lt_of_lt_of_le hlt h)⟩,Nat.le_trans h hb.size,((ct hb).1 _ _ hg).trans h0,((ct hb).1 _ _ hg).trans h1⟩
theorem iX {w:World}{p:Addr}{u:Value}(v:Value) (h:w.cell? p=some u) (hp:p.spot=none):(w.setCell p v).cell? p=some v:=by
 obtain ⟨b,o,s⟩:=p;simp only at hp;subst hp;unfold World.cell? at h ⊢;simp only [World.setCell,Array.getElem?_modify,if_true] at h ⊢
 cases hh:w.heap[b]? with
 | none=>rw [hh] at h;simp at h
 | some ob =>
  rw [hh] at h;cases ob <;> simp_all;obtain ⟨hl,_⟩:=Array.getElem?_eq_some_iff.1 h;simp [hl]
theorem cE.set2 {G g2 g3:Nat}{v0 v1:Value}{W0 W:World}(h:cE G g2 g3 v0 v1 W0 W) {i:Nat}{u:Value}(hi:(i=0∧u=v0)∨(i=1∧u=v1)):cE G g2 g3 v0 v1 W0 (W.setCell ⟨g2,i,none⟩ u):=by
 refine ⟨⟨fun b o hlt hne h3=>?_,fun b o hlt=>?_⟩,?_,?_,?_⟩
 ·rw [← h.1.1 b o hlt hne h3];unfold World.cell?;rw [Below.heap_setCell _ _ _ b hne]
 ·rw [← h.1.2 b o hlt];exact World.frozen?_setCell ..
 ·have:=h.2.1;simp [World.setCell];exact this
 ·rcases hi with ⟨rfl,rfl⟩ | ⟨rfl,rfl⟩
  ·exact iX _ h.2.2.1 rfl
  rw [World.cell?_setCell_other _ _ _ _ (by simp)];exact h.2.2.1
 rcases hi with ⟨rfl,rfl⟩ | ⟨rfl,rfl⟩
 ·rw [World.cell?_setCell_other _ _ _ _ (by simp)];exact h.2.2.2
 exact iX _ h.2.2.2 rfl
theorem cE.set3 {G g2 g3:Nat}{v0 v1:Value}{W0 W:World}(h:cE G g2 g3 v0 v1 W0 W) {i:Nat}{u:Value}(hg:g2≠g3):cE G g2 g3 v0 v1 W0 (W.setCell ⟨g3,i,none⟩ u):=by
 refine ⟨⟨fun b o hlt hne h3=>?_,fun b o hlt=>?_⟩,?_,?_,?_⟩
 ·rw [← h.1.1 b o hlt hne h3];unfold World.cell?;rw [Below.heap_setCell _ _ _ b h3]
 ·rw [← h.1.2 b o hlt];exact World.frozen?_setCell ..
 ·have:=h.2.1;simp [World.setCell];exact this
 ·rw [World.cell?_setCell_other _ _ _ _ (by simp <;> omega)];exact h.2.2.1
 rw [World.cell?_setCell_other _ _ _ _ (by simp <;> omega)];exact h.2.2.2
theorem il (w:World) (b:Bool) (A:Option Addr) (n c:Nat) (D:Option Addr) (m e:Nat) (a:RD) (k:Nat) (v:Bool) (h:QD w b A n c D m e a k) (hk:k≤300000000) (hv:a.ok=v) :
 Calls Tryz.prog 112 #[.agg #[.bool b,.slice A n c,.slice D m e]] w (av w (.bool v)):=by subst hv;exact xe w b A n c D m e a k h hk
theorem B3.p2 {W w:World}{gs t0 t1 t2:Nat}{c0 c1:Array Value}{a0 a1:Value}(h:B3 W gs t0 c0 t1 c1 t2 #[a0,a1] w) (u0 u1:Value):B3 W gs t0 c0 t1 c1 t2 #[u0,u1] ((w.setCell ⟨gs+1+1,0,none⟩ u0).setCell ⟨gs+1+1,1,none⟩ u1) :=
 ⟨(h.s.far (p:=⟨gs+1+1,0,none⟩) (by show gs≠gs+1+1;omega) u0).far (p:=⟨gs+1+1,1,none⟩) (by show gs≠gs+1+1;omega) u1,(h.t.far (p:=⟨gs+1+1,0,none⟩) (by show gs+1≠gs+1+1;omega) u0).far (p:=⟨gs+1+1,1,none⟩) (by show gs+1≠gs+1+1;omega) u1,(h.r.set_ 0 u0).set_ 1 u1,(h.q.setCell (p:=⟨gs+1+1,0,none⟩) (by show gs≤gs+1+1;omega) u0).setCell (p:=⟨gs+1+1,1,none⟩) (by show gs≤gs+1+1;omega) u1⟩
theorem mZ (w:World) (b A n c D m e a k) (h:QD w b A n c D m e a k) (h0:0 < k) (hk:k≤300000000) (ho:a.ok=false∨n=0):Calls Tryz.prog 181 #[.agg #[.bool b,.slice A n c,.slice D m e]] w (mU w a.q.num a.q.den k):=by
 obtain ⟨v,hv⟩:∃ v,a.ok=v:=⟨_,rfl⟩;have hq:a.q.num=0∧(a.q.den:Int)=1:=yy (ho.imp id fun hn=>List.eq_nil_of_length_eq_zero (by rw [← h.2.1.2.1,hn]));rw [hq.1,hq.2];have en:v=true→((n:Int) == 0)=true:=fun e=>by rcases ho with h | h;rw [h] at hv;rw [← hv] at e;cases e;simp [h]
 have HV:=Qh hv;have H:=Qh h;clear hq hv ho h;go_in;go_upto_region 1 with fail;refine ef ?_;intro w1 hw1;have k1:B3 w w.heap.size 65 #[.bool b,.slice A n c,.slice D m e] 194 #[.bool false,.slice none 0 0] 194 #[.bool false,.slice none 0 0] w1:=by rw [hw1];exact ⟨((Blk.new w _ _).alloc _).alloc _,(ah _ _ _ (by simp)).alloc _,ah _ _ _ (by simp),(((aa w).alloc Qr _).alloc (by simp) _).alloc (by simp <;> omega) _⟩
 clear hw1;have y:=k1.s.v3;go_wp2_with fail;(refine (il _ b A n c D m e a k v (H.out.belw k1.q) hk HV.out).mono ?_);rintro e w2 ⟨rfl,hb2⟩;replace k1:=k1.call hb2;clear hb2 y;have y:=k1.s.v3;have key:∀ {P:Prop},(v=false→P)→(v=true→((n:Int) == 0)=true→P)→P:=fun h1 h2=>by cases v;exact h1 rfl;exact h2 rfl (en rfl)
 clear en;refine key (fun hv=>?_) (fun hv e1=>?_)
 all_goals
  subst hv;go_wp2_with fail;(refine (yx _).mono ?_);rintro e w3 ⟨b2,A2,n2,c2,rfl,h2,hb3⟩;replace k1:=k1.call hb3;clear hb3 y;have y:=And.intro k1.t.v2 k1.r.v2;go_wp2_with fail;refine bodyPost_ret (v:=.tuple #[.agg #[.bool false,.slice none 0 0],.agg #[.bool b2,.slice A2 n2 c2]]) (by simp [results,Tryz.results181,go_sem, *] <;> trivial) rfl ?_;have k2:=k1.p1 (.bool false) (.slice none 0 0);exact ⟨_,_,_,_,_,_,_,_,rfl,IV.zero _ _,(h2.keep ((k1.t.k2 (by decide) _ _).trans (k2.r.k2 (by decide) _ _))).mono (by omega),(k2.p2 _ _).q⟩
theorem tb (w:World) (b A n c D m e a k) (h:QD w b A n c D m e a k) (h0:0 < k) (hk:k≤300000000) (ho:a.ok=true) (hn:a.num≠[]) :
 Calls Tryz.prog 181 #[.agg #[.bool b,.slice A n c,.slice D m e]] w (mU w a.q.num a.q.den k):=by
 have HK:=Qh hk;have HO:=Qh ho;obtain ⟨e1,e2,e3⟩:=AH h.2.1.1 h.2.2.1.1 ho hn;have HE:=Qh (And.intro e1 (And.intro e2 e3));have hnp:0 < n:=by rcases Nat.eq_zero_or_pos n with h1 | h1;exact absurd (List.eq_nil_of_length_eq_zero (by rw [← h.2.1.2.1,h1])) hn;exact h1
 have hmp:0 < m:=uU h ho hn;have en:((n:Int) == 0)=false:=by simp;omega
 have hkn:n≤300000000:=Nat.le_trans h.2.2.2.1 hk;have hkm:m≤300000000:=Nat.le_trans h.2.2.2.2 hk;obtain ⟨i0,hi0,hz0,hz1,hz2⟩:=info_parts dY;obtain ⟨gA,oA,eA,hlA,_⟩:=h.2.1.at2 hnp;obtain ⟨gD,oD,eD,hlD,_⟩:=h.2.2.1.at2 hmp;subst eA eD;clear ho hn e1 e2 e3 hk;go_in;go_wp2_with fail;(with_reducible refine (il _ b (some ⟨gA,oA,none⟩) n c (some ⟨gD,oD,none⟩) m e a k true ?_ ?_ ?_).mono ?_);(exact h.belw (((((Below.refl _ _).alloc Qr _).alloc (by simp) _).alloc (by simp <;> omega) _)));(exact HK.out);(exact HO.out);rintro e w1 ⟨rfl,hb1⟩;have q1:=hb1.q3;replace h:=h.belw q1;have x1a:Blk w1 w.heap.size 65 #[.bool b,.slice (some ⟨gA,oA,none⟩) n c,.slice (some ⟨gD,oD,none⟩) m e]:=(((ah _ _ _ (by simp)).alloc _).alloc _).below hb1 (by simp <;> omega);have x1b:=((ah _ _ _ (g:=w.heap.size+1) (by simp)).alloc _).below hb1 (by simp <;> omega);have x1c:=(ah _ _ _ (g:=w.heap.size+1+1) (by simp)).below hb1 (by simp);have bw1:=(aa w).trans (q1.mono (aa w).size);have lw1:=hb1.l3;clear q1;obtain ⟨cx1aa,cx1ab,cx1ac⟩:=x1a.c3;obtain ⟨lx1aa,lx1ab,lx1ac,lx1ad⟩:=fM x1a.lt;have cx1b:=x1b.c2;have fx1b:=x1b.f2;have lx1b:=gG x1b.lt;obtain ⟨cx1ca,cx1cb⟩:=x1c.c2;obtain ⟨fx1ca,fx1cb⟩:=x1c.f2;obtain ⟨lx1ca,lx1cb,lx1cc,lx1cd⟩:=oV x1c.lt;go_wp2_with fail;have howna:=World.ownsRow_lit (e:=58) (size:=1) w1 #[] 0 Qr (by simp [maxLen]) rfl;have hnewsa:=((h.2.1).keep ((Kp.refl w1).alloc (.cells #[] 58))).news (by omega) Qr;have hnla:(words (a.num.take n)).length=n * 1:=by rw [dd,List.length_take];have:=(h.2.1).2.1;omega
 have HOa:=Qh howna;have HNa:=Qh hnewsa;have HNLa:=Qh hnla;clear howna hnewsa hnla;have nf0:¬ w.heap.size=w.heap.size+1:=by omega
 have nf2:¬ w.heap.size+1+1=w.heap.size+1:=by omega
 have nfa:¬ w1.heap.size=w.heap.size+1:=by have:=x1b.lt;omega
 go_region_held3 (fun w'=>SeesX w1.heap.size (w.heap.size+1) w1 w') (first | exact SeesX.of Qr (af (aa _) 1) | exact SeesX.of Qr ((af (aa _) 1).alloc Qr _) | exact SeesX.of Qr (((aa _).alloc Qr _).drew) | exact SeesX.of Qr (by assumption) | exact SeesX.set (SeesX.of Qr (by assumption)) | exact SeesX.set (SeesX.set (SeesX.of Qr (by assumption)))) ((refine step_append_lies _ rfl _ _ _ rfl w1.heap.size 58 i0 (.int .u32 0) 1 4 Tryz.underlying63 hi0 hz0 hz1 hz2 rfl (by omega) _ 0 [] rfl (by first | exact HOa.out | exact HOa.out.drew) ⟨gA,oA,none⟩ n c (words (a.num.take n)) rfl HNLa.out HNa.out (fL _) (by omega) (by unfold maxLen;omega) (by omega) (by simp) (w1.heap.size+1) (by simp) ?_;intro ga capa va howna hgrowa hata hlta;have qa:Below w1.heap.size w1 va:=(((Below.refl _ _).alloc Qr _).drew).grown hgrowa (by simp) (fun b hb=>Nat.le_of_eq (Option.some.inj hb));have y1:Blk va (w.heap.size+1) 194 #[.bool false,.slice none 0 0]:=x1b.below qa x1b.lt;obtain ⟨cy10,cy11⟩:=y1.c2;obtain ⟨fy10,fy11⟩:=y1.f2));simp only [Nat.zero_add,List.nil_append] at howna
 have hwa:Wd va (some ⟨ga,0,none⟩) n capa a.num:=by
  have x:=Wd.of_own howna (Wds.take (h.2.1).1 n);rwa [List.take_of_length_le (Nat.le_of_eq (h.2.1).2.1.symm)] at x
 clear howna hgrowa hata HOa HNa HNLa;clear cx1aa cx1ab cx1ac lx1aa lx1ab lx1ac lx1ad cx1b fx1b lx1b cx1ca fx1ca cx1cb fx1cb lx1ca lx1cb lx1cc lx1cd;clear cy10 cy11 fy10 fy11 nfa nf0 nf2;replace x1a:=x1a.b qa;replace x1c:=x1c.b qa;replace h:=h.belw qa;have bwa:Below w.heap.size w va:=bw1.trans (qa.mono bw1.size);have lwa:w1.heap.size≤va.heap.size:=qa.size;clear x1b;go_wp2_with fail;have p5:=(((Kp.refl va).sb (w.heap.size+1) 0 y1.box (by decide) (.bool b)).sb (w.heap.size+1) 1 (y1.box.set ⟨w.heap.size+1,0,none⟩ (.bool b)) (by decide) (.slice (some ⟨ga,0,none⟩) n capa));have bw5:=((bwa.sc (w.heap.size+1) 0 (by omega) (.bool b)).sc (w.heap.size+1) 1 (by omega) (.slice (some ⟨ga,0,none⟩) n capa));replace x1a:=((x1a.fr (w.heap.size+1) 0 (by omega) (.bool b)).fr (w.heap.size+1) 1 (by omega) (.slice (some ⟨ga,0,none⟩) n capa));replace y1:Blk ((va.setCell ⟨w.heap.size+1,0,none⟩ (.bool b)).setCell ⟨w.heap.size+1,1,none⟩ (.slice (some ⟨ga,0,none⟩) n capa)) (w.heap.size+1) 194 #[.bool b,.slice (some ⟨ga,0,none⟩) n capa]:=((y1.set_at 0 (.bool b) #[.bool b,.slice none 0 0] (by simp)).set_at 1 (.slice (some ⟨ga,0,none⟩) n capa) #[.bool b,.slice (some ⟨ga,0,none⟩) n capa] (by simp));replace x1c:=((x1c.fr (w.heap.size+1) 0 (by omega) (.bool b)).fr (w.heap.size+1) 1 (by omega) (.slice (some ⟨ga,0,none⟩) n capa));have lw5:va.heap.size+0≤((va.setCell ⟨w.heap.size+1,0,none⟩ (.bool b)).setCell ⟨w.heap.size+1,1,none⟩ (.slice (some ⟨ga,0,none⟩) n capa)).heap.size:=by simp
 generalize hE5:((va.setCell ⟨w.heap.size+1,0,none⟩ (.bool b)).setCell ⟨w.heap.size+1,1,none⟩ (.slice (some ⟨ga,0,none⟩) n capa))=w5 at p5 bw5 lw5 x1a y1 x1c ⊢;clear hE5;replace h:=h.keep p5;replace hwa:=hwa.keep p5;obtain ⟨cx1aa,cx1ab,cx1ac⟩:=x1a.c3;obtain ⟨lx1aa,lx1ab,lx1ac,lx1ad⟩:=fM x1a.lt;obtain ⟨cy1_0,cy1_1⟩:=y1.c2;have fy1:=y1.f2;have ly1:=gG y1.lt;obtain ⟨cx1ca,cx1cb⟩:=x1c.c2;obtain ⟨fx1ca,fx1cb⟩:=x1c.f2;obtain ⟨lx1ca,lx1cb,lx1cc,lx1cd⟩:=oV x1c.lt;have hownd:=World.ownsRow_lit (e:=58) (size:=1) w5 #[] 0 Qr (by simp [maxLen]) rfl;have hnewsd:=((h.2.2.1).keep ((Kp.refl w5).alloc (.cells #[] 58))).news (by omega) Qr;have hnld:(words (a.den.take m)).length=m * 1:=by rw [dd,List.length_take];have:=(h.2.2.1).2.1;omega
 have HOd:=Qh hownd;have HNd:=Qh hnewsd;have HNLd:=Qh hnld;clear hownd hnewsd hnld;have nf0:¬ w.heap.size=w.heap.size+1:=by omega
 have nf1:¬ w.heap.size=w.heap.size+2:=by omega
 have nf2:¬ w.heap.size+1=w.heap.size+1+1:=by omega
 have nf3:¬ w.heap.size=w.heap.size+1:=by omega
 clear nf3;go_region_held3 (fun w'=>cE w5.heap.size (w.heap.size+1) (w.heap.size+1+1) (.bool b) (.slice (some ⟨ga,0,none⟩) n capa) w5 w') (first | with_reducible exact cE.of Qr ((aa _).drew) y1.lt cy1_0 cy1_1 | with_reducible exact cE.of Qr (((aa _).alloc Qr _).drew) y1.lt cy1_0 cy1_1 | with_reducible exact cE.of Qr (by assumption) y1.lt cy1_0 cy1_1 | with_reducible exact (cE.set2 (cE.of Qr (by assumption) y1.lt cy1_0 cy1_1) (.inl ⟨rfl,rfl⟩)) | with_reducible exact (cE.set2 (cE.set2 (cE.of Qr (by assumption) y1.lt cy1_0 cy1_1) (.inl ⟨rfl,rfl⟩)) (.inr ⟨rfl,rfl⟩)) | with_reducible exact (cE.set3 (cE.set2 (cE.set2 (cE.of Qr (by assumption) y1.lt cy1_0 cy1_1) (.inl ⟨rfl,rfl⟩)) (.inr ⟨rfl,rfl⟩)) (by omega)) | with_reducible exact (cE.set3 (cE.set3 (cE.set2 (cE.set2 (cE.of Qr (by assumption) y1.lt cy1_0 cy1_1) (.inl ⟨rfl,rfl⟩)) (.inr ⟨rfl,rfl⟩)) (by omega)) (by omega))) ((refine step_append_lies _ rfl _ _ _ rfl w5.heap.size 58 i0 (.int .u32 0) 1 4 Tryz.underlying63 hi0 hz0 hz1 hz2 rfl (by omega) _ 0 [] rfl (by first | exact HOd.out | exact HOd.out.drew) ⟨gD,oD,none⟩ m e (words (a.den.take m)) rfl HNLd.out HNd.out (fL _) (by omega) (by unfold maxLen;omega) (by omega) (by simp) (w5.heap.size+1) (by simp) ?_;intro gd capd vd hownd hgrowd hatd hltd;have qd:Below w5.heap.size w5 vd:=(((Below.refl _ _).alloc Qr _).drew).grown hgrowd (by simp) (fun b hb=>Nat.le_of_eq (Option.some.inj hb));have z1:Blk vd (w.heap.size+1) 194 #[.bool b,.slice (some ⟨ga,0,none⟩) n capa]:=y1.below qd y1.lt;obtain ⟨cz10,cz11⟩:=z1.c2;obtain ⟨fz10,fz11⟩:=z1.f2;have z2:Blk vd (w.heap.size+1+1) 194 #[.bool false,.slice none 0 0]:=x1c.below qd x1c.lt;obtain ⟨cz20,cz21⟩:=z2.c2;obtain ⟨fz20,fz21⟩:=z2.f2));simp only [Nat.zero_add,List.nil_append] at hownd
 have hwd:Wd vd (some ⟨gd,0,none⟩) m capd a.den:=by
  have x:=Wd.of_own hownd (Wds.take (h.2.2.1).1 m);rwa [List.take_of_length_le (Nat.le_of_eq (h.2.2.1).2.1.symm)] at x
 clear hownd hgrowd hatd HOd HNd HNLd;clear cx1aa cx1ab cx1ac lx1aa lx1ab lx1ac lx1ad cy1_0 fy1 cy1_1 ly1 cx1ca fx1ca cx1cb fx1cb lx1ca lx1cb lx1cc lx1cd;replace x1a:=x1a.b qd;replace hwa:=hwa.belw qd;have bwd:Below w.heap.size w vd:=bw5.trans (qd.mono bw5.size);have lwd:w5.heap.size≤vd.heap.size:=qd.size;go_wp2_with fail;refine bodyPost_ret (v:=.tuple #[.agg #[.bool b,.slice (some ⟨ga,0,none⟩) n capa],.agg #[.bool false,.slice (some ⟨gd,0,none⟩) m capd]]) (by simp [results,Tryz.results181,go_sem, *] <;> trivial) rfl ?_;have kp:=(((((Kp.refl vd).sb (w.heap.size+1) 0 z1.box (by decide) (.bool b)).sb (w.heap.size+1) 1 (z1.box.set ⟨w.heap.size+1,0,none⟩ (.bool b)) (by decide) (.slice (some ⟨ga,0,none⟩) n capa)).sb (w.heap.size+1+1) 0 ((z2.box.set ⟨w.heap.size+1,0,none⟩ (.bool b)).set ⟨w.heap.size+1,1,none⟩ (.slice (some ⟨ga,0,none⟩) n capa)) (by decide) (.bool false)).sb (w.heap.size+1+1) 1 (((z2.box.set ⟨w.heap.size+1,0,none⟩ (.bool b)).set ⟨w.heap.size+1,1,none⟩ (.slice (some ⟨ga,0,none⟩) n capa)).set ⟨w.heap.size+1+1,0,none⟩ (.bool false)) (by decide) (.slice (some ⟨gd,0,none⟩) m capd));exact ⟨b,some ⟨ga,0,none⟩,n,capa,false,some ⟨gd,0,none⟩,m,capd,rfl,⟨h.1.symm.trans HE.out.2.1,HE.out.1 ▸ hwa.keep kp,h.2.2.2.1⟩,⟨by simp [wh],HE.out.2.2 ▸ hwd.keep kp,h.2.2.2.2⟩,((((bwd.sc (w.heap.size+1) 0 (by omega) (.bool b)).sc (w.heap.size+1) 1 (by omega) (.slice (some ⟨ga,0,none⟩) n capa)).sc (w.heap.size+1+1) 0 (by omega) (.bool false)).sc (w.heap.size+1+1) 1 (by omega) (.slice (some ⟨gd,0,none⟩) m capd))⟩
theorem rL (w:World) (b A n c D m e q k) (h:QZ w b A n c D m e q k) (h0:0 < k) (hk:k≤300000000) :
 Calls Tryz.prog 181 #[.agg #[.bool b,.slice A n c,.slice D m e]] w (mU w q.num q.den k):=by
 obtain ⟨a,h,rfl⟩:=h;cases ho:a.ok
 ·exact mZ w b A n c D m e a k h h0 hk (.inl ho)
 by_cases hn:n=0
 ·exact mZ w b A n c D m e a k h h0 hk (.inr hn)
 exact tb w b A n c D m e a k h h0 hk ho (h.num_ne (by omega))
theorem AI (w:World) (b A n c D m e q k) (h:QZ w b A n c D m e q k) (b' A' n' c' D' m' e' q' k') (h':QZ w b' A' n' c' D' m' e' q' k') (h0:0 < k) (hk:k≤40000000) (h0':0 < k') (hk':k'≤40000000) :
 Calls Tryz.prog 155 #[.agg #[.bool b,.slice A n c,.slice D m e],.agg #[.bool b',.slice A' n' c',.slice D' m' e']] w (av w (.int .i64 (fN (q.num * q'.den) (q'.num * q.den)))):=by
 go_in;go_wp2_with fail;(with_reducible refine (rL _ b A n c D m e (q) (k) ?_ ?_ ?_).mono ?_);(exact (h.belw (((Below.refl _ _).alloc Qr _).alloc (by simp) _)));(omega);(omega);rintro e w1 ⟨b1,A1,n1,c1,b'1,A'1,n'1,c'1,rfl,h1,h'1,hb1⟩;have q1:=hb1.q2;replace h:=h.belw q1;replace h':=h'.belw q1;have x1a:Blk w1 w.heap.size 65 #[.bool b,.slice A n c,.slice D m e]:=((ah _ _ _ (by simp)).alloc _).below hb1 (by simp <;> omega);have x1b:=(ah _ _ _ (g:=w.heap.size+1) (by simp)).below hb1 (by simp);have bw1:=(aa w).trans (q1.mono (aa w).size);have lw1:=hb1.l2;clear q1;have cx1b:=x1b.c3;obtain ⟨lx1ba,lx1bb,lx1bc,lx1bd⟩:=gG x1b.lt;go_wp2_with fail;(with_reducible refine (rL _ b' A' n' c' D' m' e' (q') (k') ?_ ?_ ?_).mono ?_);(exact (h'.belw (((Below.refl _ _).alloc Qr _).alloc (by simp) _)));(omega);(omega);rintro e w2 ⟨b2,A2,n2,c2,b'2,A'2,n'2,c'2,rfl,h2,h'2,hb2⟩;clear cx1b lx1ba lx1bb lx1bc lx1bd;have q2:=hb2.q2;replace h:=h.belw q2;replace h':=h'.belw q2;replace h1:=h1.belw q2;replace h'1:=h'1.belw q2;replace x1a:=x1a.b q2;replace x1b:=x1b.b q2;have x2a:Blk w2 w1.heap.size 194 #[.bool b1,.slice A1 n1 c1]:=((ah _ _ _ (by simp)).alloc _).below hb2 (by simp <;> omega);have x2b:=(ah _ _ _ (g:=w1.heap.size+1) (by simp)).below hb2 (by simp);have bw2:=bw1.trans (q2.mono bw1.size);have lw2:=hb2.l2;clear q2 bw1;go_wp2_with fail;have p3:=(((Kp.refl w2).alloc (.cells #[.bool b2,.slice A2 n2 c2] 194)).alloc (.cells #[.bool b'2,.slice A'2 n'2 c'2] 194));have bw3:=((bw2.alloc (by first | omega | (simp <;> omega)) (.cells #[.bool b2,.slice A2 n2 c2] 194)).alloc (by first | omega | (simp <;> omega)) (.cells #[.bool b'2,.slice A'2 n'2 c'2] 194));have x3a:Blk ((w2.alloc (.cells #[.bool b2,.slice A2 n2 c2] 194)).alloc (.cells #[.bool b'2,.slice A'2 n'2 c'2] 194)) w2.heap.size 194 #[.bool b2,.slice A2 n2 c2]:=((ah _ _ _ (by simp)).alloc (.cells #[.bool b'2,.slice A'2 n'2 c'2] 194));have x3b:Blk ((w2.alloc (.cells #[.bool b2,.slice A2 n2 c2] 194)).alloc (.cells #[.bool b'2,.slice A'2 n'2 c'2] 194)) (w2.heap.size+1) 194 #[.bool b'2,.slice A'2 n'2 c'2]:=(ah _ _ _ (by simp));replace x1a:=((x1a.alloc (.cells #[.bool b2,.slice A2 n2 c2] 194)).alloc (.cells #[.bool b'2,.slice A'2 n'2 c'2] 194));replace x1b:=((x1b.alloc (.cells #[.bool b2,.slice A2 n2 c2] 194)).alloc (.cells #[.bool b'2,.slice A'2 n'2 c'2] 194));replace x2a:=((x2a.alloc (.cells #[.bool b2,.slice A2 n2 c2] 194)).alloc (.cells #[.bool b'2,.slice A'2 n'2 c'2] 194));replace x2b:=((x2b.alloc (.cells #[.bool b2,.slice A2 n2 c2] 194)).alloc (.cells #[.bool b'2,.slice A'2 n'2 c'2] 194));have lw3:w2.heap.size+2≤((w2.alloc (.cells #[.bool b2,.slice A2 n2 c2] 194)).alloc (.cells #[.bool b'2,.slice A'2 n'2 c'2] 194)).heap.size:=by simp
 generalize hE3:((w2.alloc (.cells #[.bool b2,.slice A2 n2 c2] 194)).alloc (.cells #[.bool b'2,.slice A'2 n'2 c'2] 194))=w3 at p3 bw3 lw3 x3a x3b x1a x1b x2a x2b ⊢;clear hE3;replace h:=h.keep p3;replace h':=h'.keep p3;replace h1:=h1.keep p3;replace h'1:=h'1.keep p3;replace h2:=h2.keep p3;replace h'2:=h'2.keep p3;clear bw2;have lx1a:=fM x1a.lt;obtain ⟨lx1ba,lx1bb,lx1bc,lx1bd⟩:=gG x1b.lt;have cx2a:=x2a.c2;have lx2a:=fM x2a.lt;have cx2b:=x2b.c2;have lx2b:=gG x2b.lt;have cx3a:=x3a.c2;have lx3a:=fM x3a.lt;have cx3b:=x3b.c2;have lx3b:=gG x3b.lt
 go_region_held3 (fun w'=>Sees w3.heap.size w3 w') (first | with_reducible exact Sees.of Qr (by assumption) | with_reducible exact Sees.of Qr (aa _).drew | exact Sees.of Qr (af (aa _) 1) | exact Sees.of Qr (af (by assumption) _))
  (first
   | (go_at_call 199;(with_reducible refine (yr _ b1 A1 n1 c1 ((q).num) ((k)) ?_ b'2 A'2 n'2 c'2 (((q').den:Int)) ((k')) ?_ ?_).mono ?_);(exact h1.iz);(exact h'2.iz);(omega);rintro e w4 ⟨b4,A4,n4,c4,rfl,h4,hb4⟩;replace hb4:=ak (af (aa _) 1) hb4;have q4:Below w3.heap.size w3 w4:=ak (aa w3) hb4;replace h:=h.belw hb4;replace h':=h'.belw hb4;replace h1:=h1.belw hb4;replace h'1:=h'1.belw hb4;replace h2:=h2.belw hb4;replace h'2:=h'2.belw hb4)
   | (go_at_call 199;(with_reducible refine (yr _ b2 A2 n2 c2 ((q').num) ((k')) ?_ b'1 A'1 n'1 c'1 (((q).den:Int)) ((k)) ?_ ?_).mono ?_);(exact h2.iz);(exact h'1.iz);(omega);rintro e w5 ⟨b5,A5,n5,c5,rfl,h5,hb5⟩;have q5:Below w3.heap.size w3 w5:=ak q4 hb5;replace h:=h.belw hb5;replace h':=h'.belw hb5;replace h1:=h1.belw hb5;replace h'1:=h'1.belw hb5;replace h2:=h2.belw hb5;replace h'2:=h'2.belw hb5;replace h4:=h4.belw hb5)
   | (go_at_call 152;(with_reducible refine (yt _ b4 A4 n4 c4 (((q).num) * (((q').den:Int))) (((k))+((k'))) ?_ b5 A5 n5 c5 (((q').num) * (((q).den:Int))) (((k'))+((k))) ?_ ?_).mono ?_);(exact h4.iz);(exact h5.iz);(omega);rintro e w6 ⟨rfl,hb6⟩;have q6:Below w3.heap.size w3 w6:=ak q5 hb6;replace h:=h.belw hb6;replace h':=h'.belw hb6;replace h1:=h1.belw hb6;replace h'1:=h'1.belw hb6;replace h2:=h2.belw hb6;replace h'2:=h'2.belw hb6;replace h4:=h4.belw hb6;replace h5:=h5.belw hb6))
 have bw6:=bw3.trans (q6.mono bw3.size);clear lx1a lx1ba lx1bb lx1bc lx1bd cx2a lx2a cx2b lx2b cx3a lx3a cx3b lx3b;replace x1a:=x1a.b q6;replace x1b:=x1b.b q6;replace x2a:=x2a.b q6;replace x2b:=x2b.b q6;replace x3a:=x3a.b q6;replace x3b:=x3b.b q6;have lw6:=q6.size;go_wp2;go_ret;exact bV rfl bw6
theorem zy (w:World) (b A n c z k) (h:IZ w b A n c z k) (b' A' n' c' z' k') (h':IZ w b' A' n' c' z' k') (q:Rat) (K:Nat) (hd:z'≠0) (hq:Rat.divInt z z'=q) (hs:Sz q K) (hk:k+k'≤300000000) :
 Calls Tryz.prog 191 #[.agg #[.bool b,.slice A n c],.agg #[.bool b',.slice A' n' c']] w (dZ w .nilIface q K):=by
 obtain ⟨s,hs1⟩:∃ s,z'.sign=s:=⟨_,rfl⟩;have e0:((s:Int) == 0)=false:=by simp;rintro rfl;exact hd (Int.sign_eq_zero_iff_zero.1 hs1)
 have HS1:=Qh hs1;have HD:=Qh hd;have HQ:=Qh hq;have HS:=Qh hs;clear hs1 hd hq hs;go_in;go_wp2_with fail;(with_reducible refine (gL _ b' A' n' c' (z') (k') ?_ s ?_ ?_).mono ?_);(exact (h'.belw ((((Below.refl _ _).alloc Qr _).alloc (by simp) _).alloc (by simp <;> omega) _)));(exact HS1.out);(omega);rintro e w1 ⟨rfl,hb1⟩;have q1:=hb1.q3;replace h:=h.belw q1;replace h':=h'.belw q1;have x1a:Blk w1 w.heap.size 194 #[.bool b,.slice A n c]:=(((ah _ _ _ (by simp)).alloc _).alloc _).below hb1 (by simp <;> omega);have x1b:=((ah _ _ _ (g:=w.heap.size+1) (by simp)).alloc _).below hb1 (by simp <;> omega);have x1c:=(ah _ _ _ (g:=w.heap.size+1+1) (by simp)).below hb1 (by simp);have bw1:=(aa w).trans (q1.mono (aa w).size);have lw1:=hb1.l3;clear q1;have cx1a:=x1a.c2;have lx1a:=fM x1a.lt;have cx1b:=x1b.c2;have lx1b:=gG x1b.lt;go_wp2_with fail;(with_reducible refine (zt _ b A n c (z) (k) ?_ b' A' n' c' (z') (k') ?_ q K ?_ ?_ ?_ ?_).mono ?_);(exact h);(exact h');(exact HD.out);(exact HQ.out);(exact HS.out);(omega);rintro e w2 ⟨b2,A2,n2,c2,A'2,n'2,c'2,rfl,h2,q2⟩;clear cx1a lx1a cx1b lx1b;replace h:=h.belw q2;replace h':=h'.belw q2;replace x1a:=x1a.b q2;replace x1b:=x1b.b q2;replace x1c:=x1c.b q2;have bw2:=bw1.trans (q2.mono bw1.size);have lw2:=q2.size;clear q2 bw1;have cx1c:=x1c.c3;have fx1c:=x1c.f3;have lx1c:=oV x1c.lt;go_wp2_with fail;refine bodyPost_ret (v:=.tuple #[.agg #[.bool b2,.slice A2 n2 c2,.slice A'2 n'2 c'2],.nilIface]) (by simp [results,Tryz.results191,go_sem, *] <;> trivial) rfl ?_;exact ⟨b2,A2,n2,c2,A'2,n'2,c'2,rfl,h2.keep ((((Kp.refl w2).sb (w.heap.size+1+1) 0 x1c.box (by decide) (.bool b2)).sb (w.heap.size+1+1) 1 (x1c.box.set ⟨w.heap.size+1+1,0,none⟩ (.bool b2)) (by decide) (.slice A2 n2 c2)).sb (w.heap.size+1+1) 2 ((x1c.box.set ⟨w.heap.size+1+1,0,none⟩ (.bool b2)).set ⟨w.heap.size+1+1,1,none⟩ (.slice A2 n2 c2)) (by decide) (.slice A'2 n'2 c'2)),(((bw2.sc (w.heap.size+1+1) 0 (by omega) (.bool b2)).sc (w.heap.size+1+1) 1 (by omega) (.slice A2 n2 c2)).sc (w.heap.size+1+1) 2 (by omega) (.slice A'2 n'2 c'2))⟩
end Go.Proofs.YtfilnhompchciaaGreatDoor
namespace Bn
structure TN where
  t:Rat
  h:Bool
deriving DecidableEq
def TN.ok (a:TN):Prop:=a.h=true→a.t=0
/-! ### order -/
def kE (a b:Rat):Int:=if a < b then -1 else if a=b then 0 else 1
theorem bZ {a b:Rat}:kE a b=0 ↔ a=b:=by
 unfold kE;split
 ·grind
 split
 ·simpa
 simpa
end Bn

/- Cells that are only read; turns as values. -/
namespace Go.Proofs.YtfilnhompchciaaGreatDoor
open Go Go.RowKit Bn
attribute [local go_sem ↓] Go.wp_at_zero Go.wp_at_succ
def Rd (w:World) (g:Nat) (cs:Array Value):Prop:=g < w.heap.size∧∀ i,i < cs.size→w.cell? ⟨g,i,none⟩=cs[i]?
section
variable {w w':World}{g:Nat}{cs:Array Value}
theorem Rd.lt (h:Rd w g cs):g < w.heap.size:=h.1
theorem Rd.cell (h:Rd w g cs) (i:Nat) (hi:i < cs.size):w.cell? ⟨g,i,none⟩=cs[i]?:=h.2 i hi
theorem Rd.below {B:Nat}(h:Rd w g cs) (hb:Below B w w') (hg:g < B):Rd w' g cs:=by
 refine ⟨?_,fun i hi=>?_⟩
 ·have:=hb.block g hg
  rcases Nat.lt_or_ge g w'.heap.size with h1 | h1
  ·exact h1
  rw [Array.getElem?_eq_none h1,Array.getElem?_eq_getElem h.1] at this;cases this
 rw [← h.2 i hi];unfold World.cell?;rw [hb.block g hg]
theorem Rd.alloc (h:Rd w g cs) (o:Obj):Rd (w.alloc o) g cs:=by
 refine ⟨by have:=h.1;simp;omega,fun i hi=>?_⟩;rw [← h.2 i hi];unfold World.cell?;rw [Below.heap_alloc w o g h.1]
theorem Rd.far (h:Rd w g cs) {p:Addr}(hp:g≠p.block) (u:Value):Rd (w.setCell p u) g cs:=by
 refine ⟨by have:=h.1;simp [World.setCell];exact this,fun i hi=>?_⟩;rw [← h.2 i hi];unfold World.cell?;rw [Below.heap_setCell w p u g hp]
end
abbrev yz (G:Nat) (W0 W:World):Prop:=((∀ b o,b < G→W.cell? ⟨b,o,none⟩=W0.cell? ⟨b,o,none⟩)∧(∀ b o,b < G→W.frozen? ⟨b,o,none⟩=W0.frozen? ⟨b,o,none⟩))∧G≤W.heap.size
theorem yz.of {W0 W:World}(hb:Below W0.heap.size W0 W):yz W0.heap.size W0 W:=Sees.of Qr hb

abbrev pq (G g g':Nat) (W0 W:World):Prop:=((∀ b o,b < G→b≠g→b≠g'→W.cell? ⟨b,o,none⟩=W0.cell? ⟨b,o,none⟩)∧(∀ b o,b < G→W.frozen? ⟨b,o,none⟩=W0.frozen? ⟨b,o,none⟩))∧G≤W.heap.size
theorem pq.of {G g g':Nat}{W0 W:World}(h:G≤W0.heap.size) (hb:Below W0.heap.size W0 W):pq G g g' W0 W :=
 ⟨⟨fun b o hlt _ _=>(ct hb).1 b o (Nat.lt_of_lt_of_le hlt h),fun b o hlt=>(ct hb).2 b o (Nat.lt_of_lt_of_le hlt h)⟩,Nat.le_trans h hb.size⟩
theorem pq.set2 {G g g':Nat}{W0 W:World}(h:pq G g g' W0 W) {i:Nat}{u:Value}:pq G g g' W0 (W.setCell ⟨g',i,none⟩ u):=by
 refine ⟨⟨fun b o hlt hne hne'=>?_,fun b o hlt=>?_⟩,?_⟩
 ·rw [← h.1.1 b o hlt hne hne'];unfold World.cell?;rw [Below.heap_setCell _ _ _ b hne']
 ·rw [← h.1.2 b o hlt];exact World.frozen?_setCell ..
 have:=h.2;simp [World.setCell];exact this
def QK (w:World) (b:Bool) (A:Option Addr) (n c:Nat) (D:Option Addr) (m e:Nat) (q:Rat) (k:Nat):Prop:=∃ a,QD w b A n c D m e a k∧a.q=q∧a.ok=true
section
variable {w w':World}{b x:Bool}{A D:Option Addr}{n c m e k j:Nat}{q:Rat}{t:TN}
theorem QK.qz (h:QK w b A n c D m e q k):QZ w b A n c D m e q k:=by obtain ⟨a,h1,h2,_⟩:=h;exact ⟨a,h1,h2⟩
theorem QV.qk (h:QV w b A n c D m e q k):QK w b A n c D m e q k:=⟨_,h,yR q,ui q⟩
theorem QK.belw (h:QK w b A n c D m e q k) (hb:Below w.heap.size w w'):QK w' b A n c D m e q k:=by obtain ⟨a,h1,h2⟩:=h;exact ⟨a,h1.belw hb,h2⟩
theorem QK.keep (h:QK w b A n c D m e q k) (hb:Kp w w'):QK w' b A n c D m e q k:=by obtain ⟨a,h1,h2⟩:=h;exact ⟨a,h1.keep hb,h2⟩
theorem QK.mono (h:QK w b A n c D m e q k) (hk:k≤j):QK w b A n c D m e q j:=by obtain ⟨a,h1,h2⟩:=h;exact ⟨a,h1.mono hk,h2⟩
def TK (w:World) (b:Bool) (A:Option Addr) (n c:Nat) (D:Option Addr) (m e:Nat) (x:Bool) (t:TN) (k:Nat):Prop:=QK w b A n c D m e t.t k∧x=t.h∧t.ok
def TV (w:World) (b:Bool) (A:Option Addr) (n c:Nat) (D:Option Addr) (m e:Nat) (x:Bool) (t:TN) (k:Nat):Prop:=QV w b A n c D m e t.t k∧x=t.h∧t.ok
theorem TV.tk (h:TV w b A n c D m e x t k):TK w b A n c D m e x t k:=⟨h.1.qk,h.2⟩
theorem TK.belw (h:TK w b A n c D m e x t k) (hb:Below w.heap.size w w'):TK w' b A n c D m e x t k:=⟨h.1.belw hb,h.2⟩
theorem TK.keep (h:TK w b A n c D m e x t k) (hb:Kp w w'):TK w' b A n c D m e x t k:=⟨h.1.keep hb,h.2⟩
theorem TV.belw (h:TV w b A n c D m e x t k) (hb:Below w.heap.size w w'):TV w' b A n c D m e x t k:=⟨h.1.belw hb,h.2⟩
theorem TV.keep (h:TV w b A n c D m e x t k) (hb:Kp w w'):TV w' b A n c D m e x t k:=⟨h.1.keep hb,h.2⟩
theorem TK.mono (h:TK w b A n c D m e x t k) (hk:k≤j):TK w b A n c D m e x t j:=⟨h.1.mono hk,h.2⟩
theorem TK.qk (h:TK w b A n c D m e x t k):QK w b A n c D m e t.t k:=h.1
theorem TK.qz (h:TK w b A n c D m e x t k):QZ w b A n c D m e t.t k:=h.1.qz
theorem TV.qk (h:TV w b A n c D m e x t k):QK w b A n c D m e t.t k:=h.1.qk
theorem TV.qz (h:TV w b A n c D m e x t k):QZ w b A n c D m e t.t k:=h.1.qz
theorem TV.mono (h:TV w b A n c D m e x t k) (hk:k≤j):TV w b A n c D m e x t j:=⟨h.1.mono hk,h.2⟩
end

theorem jB {l:List Bool}{i:Nat}(h:l[i]?=some false):(l.set i true).count false+1=l.count false:=by
 induction l generalizing i with
 | nil=>simp at h
 | cons b l ih =>
  cases i with
  | zero=>simp at h;subst h;simp
  | succ i =>
   simp only [List.getElem?_cons_succ] at h;have:=ih h;simp only [List.set_cons_succ,List.count_cons];omega
section
variable {P:Program}{ops:Array Oper}{Q:Exit→Act→World→Prop}{md:Region.Mode}
theorem nc {L:Array Bool}{i:Nat}(h:i∈Region.ready md ops L):L.toList[i]?=some false:=by
 have h1:=(mem_ready.1 h).1;rcases Nat.lt_or_ge i L.size with h2 | h2
 ·rw [Array.getD_eq_getD_getElem?,Array.getElem?_eq_getElem h2] at h1
  simp only [Option.getD_some] at h1;rw [Array.getElem?_toList,Array.getElem?_eq_getElem h2,h1]
 rw [Array.getD_eq_getD_getElem?,Array.getElem?_eq_none h2] at h1;cases h1
theorem im (A:Array Bool→Act→World→Prop)
 (hstep:∀ L a w i,L.size=ops.size→i∈Region.ready md ops L→A L a w→wpOp P ops Q i (A (L.setIfInBounds i true)) a w)
 (hend:∀ L a w,L.size=ops.size→Region.ready md ops L=[]→A L a w→Q .normal a w) :
 ∀ (fuel:Nat) (L:Array Bool) (a:Act) (w:World),L.size=ops.size→L.toList.count false≤fuel→A L a w→wpAny P md ops Q fuel L a w:=by
 intro fuel
 induction fuel with
 | zero =>
  intro L a w hs hc hA
  have hr:Region.ready md ops L=[]:=by
   cases hr:Region.ready md ops L with
   | nil=>rfl
   | cons i r =>
    have h1:=nc (md:=md) (ops:=ops) (L:=L) (i:=i) (by rw [hr];simp);have h2:=jB h1;omega
  exact ⟨hr,hend L a w hs hr hA⟩
 | succ fuel ih =>
  intro L a w hs hc hA;refine ⟨fun hr=>hend L a w hs hr hA,fun i hi=>wpOp_mono (fun a' w' h'=>ih _ _ _ (by simpa using hs) ?_ h') (hstep L a w i hs hi hA)⟩;have h2:=jB (nc hi);rw [Array.toList_setIfInBounds];omega
end
def cq (w:World) (g:Nat):Nat→List Value→World
  | _,[]=>w
  | i,u :: us=>cq (w.setCell ⟨g,i,none⟩ u) g (i+1) us
def tc (c:Array Value):Nat→List Value→Array Value
  | _,[]=>c
  | i,u :: us=>tc (c.setIfInBounds i u) (i+1) us
section
variable {g:Nat}{t:TypeId}
theorem oc {g':Nat}(hg:g'≠g):∀ (us:List Value) (i:Nat) (w:World),(cq w g i us).heap[g']?=w.heap[g']?:=by
 intro us
 induction us with
 | nil=>intro i w;rfl
 | cons u us ih=>intro i w;exact (ih (i+1) _).trans (Below.heap_setCell w ⟨g,i,none⟩ u g' hg)
theorem lr (ht:KT t=false) (us:List Value) (i:Nat) (w:World) (c:Array Value) (hc:noU c=true) (h:Blk w g t c):Kp w (cq w g i us) :=
 fun _ _ _ x=>x.same (oc (x.ne h ht hc) us i w)
theorem fl:∀ (us:List Value) (i:Nat) (w:World) (c:Array Value),Blk w g t c→Blk (cq w g i us) g t (tc c i us):=by
 intro us
 induction us with
 | nil=>intro i w c h;exact h
 | cons u us ih=>intro i w c h;exact ih (i+1) _ _ (h.set_ i u)
theorem cF {g':Nat}{t':TypeId}{c':Array Value}(hg:g'≠g):∀ (us:List Value) (i:Nat) (w:World),Blk w g' t' c'→Blk (cq w g i us) g' t' c':=by
 intro us
 induction us with
 | nil=>intro i w h;exact h
 | cons u us ih=>intro i w h;exact ih (i+1) _ (h.far hg u)
theorem cP {B:Nat}{a:World}(hg:B≤g):∀ (us:List Value) (i:Nat) (w:World),Below B a w→Below B a (cq w g i us):=by
 intro us
 induction us with
 | nil=>intro i w h;exact h
 | cons u us ih=>intro i w h;exact ih (i+1) _ (h.setCell (p:=⟨g,i,none⟩) hg u)
end
theorem eL {g:Nat}:∀ (us:List Value) (i:Nat) (w:World),(cq w g i us).heap.size=w.heap.size:=by
 intro us
 induction us with
 | nil=>intro i w;rfl
 | cons u us ih=>intro i w;rw [cq,ih];simp [World.setCell]
structure Flt where
  a:Nat
  s:Nat
  T:TypeId
  Z:Array Value
  PS:Array Value→World→Prop
  [hZ:NoU Z]
structure Own where
  g:Nat
  s:Nat
  o:Nat
  T:TypeId
  Z:Array Value
  PS:Array Value→World→Prop
  [hZ:NoU Z]
def upd (x:Nat→Value) (i:Nat) (v:Value):Nat→Value:=fun j=>if j=i then v else x j
theorem di (x:Nat→Value) (i:Nat) (v:Value):upd x i v i=v:=by simp [upd]
theorem aH (x:Nat→Value) {i j:Nat}(v:Value) (h:j≠i):upd x i v j=x j:=by simp [upd,h]

def Bt (ops:Array Oper) (fr:(Nat→Value)→Act) (R:Nat→Value→World→Prop) (es:List Flt) (ow:List Own) (B:Nat) (W:World) (L:Array Bool) (a:Act) (w:World):Prop :=
  ∃ x,a=fr x∧(Kp W w∧Below B W w)∧(∀ i,L.getD i false=true→R i (x i) w) ∧
  (∀ i o,ops[i]?=some o→L.getD i false=true→∀ e∈o.after,Region.binds .any e=true→L.getD e.on false=true) ∧
  (∀ f∈es,L.getD f.a false=true→∃ g c,x f.a=.pointer (some ⟨g,0,none⟩)∧W.heap.size≤g∧Blk w g f.T c∧(L.getD f.s false=false→c=f.Z)∧(L.getD f.s false=true→f.PS c w)) ∧
  (∀ f∈es,∀ f'∈es,f.a≠f'.a→L.getD f.a false=true→L.getD f'.a false=true→x f.a≠x f'.a) ∧
  (∀ f∈ow,∃ c,Blk w f.g f.T c∧(L.getD f.s false=false→c=f.Z)∧(L.getD f.s false=true→f.PS c w))

section
variable (P:Program) (ops:Array Oper) (Q:Exit→Act→World→Prop) (fr:(Nat→Value)→Act) (R:Nat→Value→World→Prop) (es:List Flt) (ow:List Own) (B:Nat) (W:World)
def xu (i:Nat) (o:Oper):Prop:=(∀ f∈es,i≠f.a∧i≠f.s)∧(∀ f∈ow,i≠f.s) ∧
  ∀ x w,Kp W w→(∀ f∈ow,(∀ o',ops[f.s]?=some o'→∃ e∈o'.after,Region.binds .any e=true∧e.on=i)→Blk w f.g f.T f.Z)→(∀ e∈o.after,Region.binds .any e=true→R e.on (x e.on) w)→∀ K':Act→World→Prop,Shut (∀ v w',R i v w'→Below w.heap.size w w'→K' ((fr x).put o.dst v) w') →
    if Region.wanted o (yielded ops (fr x).tmps)=true then Oper.wp P o (fr x) w K' Q else K' ((fr x).put o.dst undef) w
def tf (i:Nat) (o:Oper):Prop:=∃ f∈es,i=f.a∧(∀ f'∈es,i≠f'.s)∧(∀ f'∈ow,i≠f'.s)∧(∀ f'∈es,f'.a=i→f'=f)∧(∀ v w,R i v w) ∧
  ∀ x w,∀ K':Act→World→Prop,Shut (K' ((fr x).put o.dst (.pointer (some ⟨w.heap.size,0,none⟩))) (w.alloc (.cells f.Z f.T))) →
    if Region.wanted o (yielded ops (fr x).tmps)=true then Oper.wp P o (fr x) w K' Q else K' ((fr x).put o.dst undef) w
def tg (i:Nat) (o:Oper):Prop:=∃ f∈es,i=f.s∧(∀ f'∈es,i≠f'.a)∧(∀ f'∈ow,i≠f'.s)∧(∀ f'∈es,f'.s=i→f'=f)∧(∀ f'∈es,f'.a=f.a→f'=f)∧KT f.T=false∧(∀ v w,R i v w)∧(∃ e∈o.after,Region.binds .any e=true∧e.on=f.a) ∧
  ∀ x w g,x f.a=.pointer (some ⟨g,0,none⟩)→Blk w g f.T f.Z→(∀ e∈o.after,Region.binds .any e=true→R e.on (x e.on) w) →
    ∃ us,(∀ w',Kp w w'→f.PS (tc f.Z 0 us) w')∧∀ K':Act→World→Prop,Shut (∀ v,K' ((fr x).put o.dst v) (cq w g 0 us)) →
      if Region.wanted o (yielded ops (fr x).tmps)=true then Oper.wp P o (fr x) w K' Q else K' ((fr x).put o.dst undef) w
def xw (i:Nat) (o:Oper):Prop:=∃ f∈ow,i=f.s∧(∀ f'∈es,i≠f'.a∧i≠f'.s)∧(∀ f'∈ow,f'.s=i→f'=f)∧KT f.T=false∧(∀ v w,R i v w) ∧
  ∀ x w,Blk w f.g f.T f.Z→(∀ e∈o.after,Region.binds .any e=true→R e.on (x e.on) w) →
    ∃ us,(∀ w',Kp w w'→f.PS (tc f.Z f.o us) w')∧∀ K':Act→World→Prop,Shut (∀ v,K' ((fr x).put o.dst v) (cq w f.g f.o us)) →
      if Region.wanted o (yielded ops (fr x).tmps)=true then Oper.wp P o (fr x) w K' Q else K' ((fr x).put o.dst undef) w
end
theorem ai {L:Array Bool}{i j:Nat}(hi:i < L.size):(L.setIfInBounds i true).getD j false=(decide (j=i) || L.getD j false):=by
 rw [Array.getD_eq_getD_getElem?,Array.getD_eq_getD_getElem?,Array.getElem?_setIfInBounds];by_cases h:i=j
 ·subst h;simp [hi]
 rw [if_neg h];simp [show ¬ j=i from fun e=>h e.symm]
section
variable {P:Program}{ops:Array Oper}{Q:Exit→Act→World→Prop}{fr:(Nat→Value)→Act}{R:Nat→Value→World→Prop}{es:List Flt}{ow:List Own}{B:Nat}
theorem iY {id:Nat}{w:World}{x0:Nat→Value}(hm:P.follows .mixedOrders=true)
 (hput:∀ i o,ops[i]?=some o→∀ x v,(fr x).put o.dst v=fr (upd x i v))
 (hac:∀ i o,ops[i]?=some o→∀ e∈o.after,Region.binds .any e=true→e.on < i)
 (hR:∀ i v w w',R i v w→Kp w w'→R i v w')
 (hPS:∀ f∈es,∀ c w w',f.PS c w→Kp w w'→f.PS c w')
 (hPO:∀ f∈ow,∀ c w w',f.PS c w→Kp w w'→f.PS c w')
 (hfs:∀ f∈es,f.a < ops.size∧f.s < ops.size)
 (hB:B≤w.heap.size)
 (hO:∀ f∈ow,Blk w f.g f.T f.Z∧B≤f.g)
 (hOd:∀ f∈ow,∀ f'∈ow,f.g=f'.g→f=f')
 (hstep:∀ i o,ops[i]?=some o→xu P ops Q fr R es ow w i o∨tf P ops Q fr R es ow i o∨tg P ops Q fr R es ow i o∨xw P ops Q fr R es ow i o)
 (hend:∀ x w',Kp w w'→Below B w w'→w.heap.size≤w'.heap.size→(∀ f∈ow,∃ c,Blk w' f.g f.T c∧(ops.size≤f.s→c=f.Z)∧(f.s < ops.size→f.PS c w'))→(∀ i,i < ops.size→R i (x i) w')→(∀ f∈es,∃ g c,x f.a=.pointer (some ⟨g,0,none⟩)∧w.heap.size≤g∧Blk w' g f.T c∧f.PS c w')→(∀ f∈es,∀ f'∈es,f.a≠f'.a→x f.a≠x f'.a)→Q .normal (fr x) w') :
 (Code.region id ops true).wp P Q (fr x0) w:=by
 refine wp_region_any hm (im (fun L a w'=>w.heap.size≤w'.heap.size∧Bt ops fr R es ow B w L a w') ?_ ?_ _ _ _ _ (by simp) ?_ ?_)
 ·rintro L a w1 i hs hi ⟨hsz,x,rfl,⟨hkW,hb⟩,hr,hcl,hf,hd,how⟩
  obtain ⟨hun,o,ho,hall⟩:=mem_ready.1 hi
  have hlt:i < L.size:=by
   rcases Nat.lt_or_ge i L.size with h | h
   ·exact h
   rw [Array.getD_eq_getD_getElem?,Array.getElem?_eq_none h] at hun;cases hun
  have hunf:L.getD i false=false:=by
   rw [Array.getD_eq_getD_getElem?,Array.getElem?_eq_getElem hlt] at hun ⊢;exact hun
  have hdep:∀ e∈o.after,Region.binds .any e=true→R e.on (x e.on) w1:=fun e he hbd=>hr _ (hall e he hbd)
  have hcl':∀ i' o',ops[i']?=some o'→(L.setIfInBounds i true).getD i' false=true→∀ e∈o'.after,Region.binds .any e=true→(L.setIfInBounds i true).getD e.on false=true:=by
   intro i' o' ho' hl e he hbd;rw [ai hlt] at hl ⊢;by_cases h:i'=i
   ·subst h;rw [ho] at ho';injection ho' with ho';subst ho'
    rw [hall e he hbd];simp
   have:L.getD i' false=true:=by simpa [h] using hl
   rw [hcl i' o' ho' this e he hbd];simp
  refine wpOp_step ho fun K' hK=>?_
  have hsno:∀ f∈ow,(∀ o',ops[f.s]?=some o'→∃ e∈o'.after,Region.binds .any e=true∧e.on=i)→Blk w1 f.g f.T f.Z:=by
   intro f hfo hdd;obtain ⟨c,c1,c2,_⟩:=how f hfo
   have:L.getD f.s false=false:=by
    cases h:L.getD f.s false
    ·rfl
    exfalso
    have hlt2:f.s < ops.size:=by
     rcases Nat.lt_or_ge f.s L.size with h2 | h2
     ·omega
     rw [Array.getD_eq_getD_getElem?,Array.getElem?_eq_none h2] at h;cases h
    obtain ⟨e,he,hbd,hea⟩:=hdd _ (Array.getElem?_eq_getElem hlt2);have:=hcl f.s _ (Array.getElem?_eq_getElem hlt2) h e he hbd;rw [hea,hunf] at this;cases this
   rw [← c2 this];exact c1
  have howk:∀ w',Kp w1 w'→(∀ g t c,Blk w1 g t c→(∃ f∈ow,f.g=g)→Blk w' g t c)→(∀ f∈ow,i≠f.s)→∀ f∈ow,∃ c,Blk w' f.g f.T c∧((L.setIfInBounds i true).getD f.s false=false→c=f.Z)∧((L.setIfInBounds i true).getD f.s false=true→f.PS c w'):=by
   intro w' hkp hbl hne f hfo;obtain ⟨c,c1,c2,c3⟩:=how f hfo;have n2:=hne f hfo;refine ⟨c,hbl _ _ _ c1 ⟨f,hfo,rfl⟩,fun h=>c2 ?_,fun h=>hPO f hfo _ _ _ (c3 ?_) hkp⟩
   ·rw [ai hlt] at h;simpa [Ne.symm n2] using h
   rw [ai hlt] at h;simpa [Ne.symm n2] using h
  rcases hstep i o ho with ⟨hno,hnow,hv⟩ | ⟨f,hf1,rfl,hnos,hnow,huniq,hRi,hv⟩ | ⟨f,hf1,rfl,hnoa,hnow,huniq,huniqa,hT,hRi,⟨e,he,hbd,hea⟩,hv⟩ | ⟨f,hf1,rfl,hnoe,huniq,hT,hRi,hv⟩
  ·refine hv x w1 hkW hsno hdep K' (fun v w' hRv hbw=>hK _ _ ?_)
   have hkp:Kp w1 w':=(Kp.refl w1).below hbw;refine ⟨Nat.le_trans hsz hbw.size,upd x i v,hput i o ho x v,⟨hkW.trans hkp,hb.trans (hbw.mono (Nat.le_trans hB hsz))⟩,fun j hj=>?_,hcl',fun f hfe hfa=>?_,fun f hfe f' hfe' hne h1 h2=>?_,howk w' hkp (fun g t c h _=>h.below hbw h.lt) hnow⟩
   ·by_cases h:j=i
    ·subst h;rw [di];exact hRv
    rw [aH _ _ h];rw [ai hlt] at hj;exact hR _ _ _ _ (hr j (by simpa [h] using hj)) hkp
   ·rw [ai hlt] at hfa
    have n1:=(hno f hfe).1;have n2:=(hno f hfe).2;rw [aH _ _ (Ne.symm n1)];obtain ⟨g,c,e1,e2,e3,e4,e5⟩:=hf f hfe (by simpa [Ne.symm n1] using hfa);refine ⟨g,c,e1,e2,e3.below hbw e3.lt,fun h=>e4 ?_,fun h=>hPS f hfe _ _ _ (e5 ?_) hkp⟩
    ·rw [ai hlt] at h;simpa [Ne.symm n2] using h
    rw [ai hlt] at h;simpa [Ne.symm n2] using h
   rw [ai hlt] at h1 h2;have n1:=(hno f hfe).1;have n2:=(hno f' hfe').1;rw [aH _ _ (Ne.symm n1),aH _ _ (Ne.symm n2)];exact hd f hfe f' hfe' hne (by simpa [Ne.symm n1] using h1) (by simpa [Ne.symm n2] using h2)
  ·refine hv x w1 K' (hK _ _ ?_)
   have hkp:Kp w1 (w1.alloc (.cells f.Z f.T)):=(Kp.refl w1).alloc _
   have hsl:L.getD f.s false=false:=by
    cases h:L.getD f.s false
    ·rfl
    exfalso;obtain ⟨o',ho'⟩:∃ o',ops[f.s]?=some o':=⟨_,Array.getElem?_eq_getElem (hfs f hf1).2⟩;rcases hstep f.s o' ho' with ⟨hno,_⟩ | ⟨f2,hf2,e2,hnos2,_⟩ | ⟨f2,hf2,e2,_,_,hu2,_,_,_,⟨e,he,hbd,hea⟩,_⟩ | ⟨f2,hf2,e2,hno2,_⟩
    ·exact (hno f hf1).2 rfl
    ·exact hnos2 f hf1 rfl
    ·have:=hu2 f hf1 rfl
     subst this;have:=hcl f.s o' ho' h e he hbd;rw [hea] at this;rw [this] at hunf;cases hunf
    exact (hno2 f hf1).2 rfl
   refine ⟨by simp;omega,upd x f.a _,hput f.a o ho x _,⟨hkW.alloc _,hb.alloc (Nat.le_trans hB hsz) _⟩,fun j hj=>?_,hcl',fun f' hfe hfa=>?_,fun f1 hfe f2 hfe' hne h1 h2=>?_,howk _ hkp (fun g t c h _=>h.alloc _) hnow⟩
   ·by_cases h:j=f.a
    ·subst h;exact hRi _ _
    rw [aH _ _ h];rw [ai hlt] at hj;exact hR _ _ _ _ (hr j (by simpa [h] using hj)) hkp
   ·by_cases h:f'.a=f.a
    ·have:=huniq f' hfe h
     subst this;rw [di];refine ⟨_,_,rfl,hsz,Blk.new _ _ _,fun _=>rfl,fun h'=>?_⟩;rw [ai hlt,hsl] at h';have:f'.s=f'.a:=by simpa using h'
     exact absurd this.symm (hnos f' hfe)
    rw [aH _ _ h];rw [ai hlt] at hfa;have n2:=hnos f' hfe;obtain ⟨g,c,e1,e2,e3,e4,e5⟩:=hf f' hfe (by simpa [h] using hfa);refine ⟨g,c,e1,e2,e3.alloc _,fun h=>e4 ?_,fun h=>hPS f' hfe _ _ _ (e5 ?_) hkp⟩
    ·rw [ai hlt] at h;simpa [Ne.symm n2] using h
    rw [ai hlt] at h;simpa [Ne.symm n2] using h
   rw [ai hlt] at h1 h2
   have fresh:∀ f3∈es,f3.a≠f.a→L.getD f3.a false=true→x f3.a≠.pointer (some ⟨w1.heap.size,0,none⟩):=by
    intro f3 h3 hne3 hl3 heq;obtain ⟨g,c,e1,e2,e3,_⟩:=hf f3 h3 hl3;rw [e1] at heq;have hg:=e3.lt;injection heq with heq;injection heq with heq;injection heq with heq;omega
   by_cases c1:f1.a=f.a
   ·have c2:f2.a≠f.a:=fun h=>hne (c1.trans h.symm)
    rw [c1,di,aH _ _ c2];exact (fresh f2 hfe' c2 (by simpa [c2] using h2)).symm
   rw [aH _ _ c1];by_cases c2:f2.a=f.a
   ·rw [c2,di];exact fresh f1 hfe c1 (by simpa [c1] using h1)
   rw [aH _ _ c2];exact hd f1 hfe f2 hfe' hne (by simpa [c1] using h1) (by simpa [c2] using h2)
  ·have hal:L.getD f.a false=true:=by rw [← hea];exact hall e he hbd
   obtain ⟨g,c,e1,e2,e3,e4,e5⟩:=hf f hf1 hal;have hc:=e4 hunf;subst hc;obtain ⟨us,hus,hv⟩:=hv x w1 g e1 e3 hdep;refine hv K' (fun v=>hK _ _ ?_);have hkp:Kp w1 (cq w1 g 0 us):=lr hT us 0 w1 _ f.hZ.h e3;have hnb:∀ f3∈es,f3.a≠f.s:=fun f3 h3 h=>hnoa f3 h3 h.symm
   refine ⟨Nat.le_trans hsz (Nat.le_of_eq (eL us 0 w1).symm),upd x f.s v,hput f.s o ho x v,⟨hkW.trans hkp,cP (Nat.le_trans hB e2) us 0 w1 hb⟩,fun j hj=>?_,hcl',fun f' hfe hfa=>?_,fun f1 hfe f2 hfe' hne h1 h2=>?_,howk _ hkp (fun g2 t c h hex=>cF (by obtain ⟨f2,h2,rfl⟩:=hex;have:=(hO f2 h2).1.lt;omega) us 0 w1 h) hnow⟩
   ·by_cases h:j=f.s
    ·subst h;exact hRi _ _
    rw [aH _ _ h];rw [ai hlt] at hj;exact hR _ _ _ _ (hr j (by simpa [h] using hj)) hkp
   ·rw [aH _ _ (hnb f' hfe)]
    rw [ai hlt] at hfa;by_cases h:f'.a=f.a
    ·have:=huniqa f' hfe h
     subst this;refine ⟨g,_,e1,e2,fl us 0 w1 _ e3,fun h'=>?_,fun _=>hus _ hkp⟩;rw [ai hlt] at h';simp at h'
    have n2:f'.s≠f.s:=fun h2=>h (by rw [huniq f' hfe h2])
    obtain ⟨g',c',d1,d2,d3,d4,d5⟩:=hf f' hfe (by simpa [hnb f' hfe] using hfa)
    have hgg:g'≠g:=by
     rintro rfl;exact hd f' hfe f hf1 h (by simpa [hnb f' hfe] using hfa) hal (d1.trans e1.symm)
    refine ⟨g',c',d1,d2,cF hgg us 0 w1 d3,fun h=>d4 ?_,fun h=>hPS f' hfe _ _ _ (d5 ?_) hkp⟩
    ·rw [ai hlt] at h;simpa [n2] using h
    rw [ai hlt] at h;simpa [n2] using h
   rw [ai hlt] at h1 h2;rw [aH _ _ (hnb f1 hfe),aH _ _ (hnb f2 hfe')];exact hd f1 hfe f2 hfe' hne (by simpa [hnb f1 hfe] using h1) (by simpa [hnb f2 hfe'] using h2)
  obtain ⟨c,c1,c2,_⟩:=how f hf1;have hc:=c2 hunf;subst hc;obtain ⟨us,hus,hv⟩:=hv x w1 c1 hdep;refine hv K' (fun v=>hK _ _ ?_);have hkp:Kp w1 (cq w1 f.g f.o us):=lr hT us f.o w1 _ f.hZ.h c1;have hna:∀ f3∈es,f3.a≠f.s:=fun f3 h3 h=>(hnoe f3 h3).1 h.symm
  have hns:∀ f3∈es,f3.s≠f.s:=fun f3 h3 h=>(hnoe f3 h3).2 h.symm
  have hgl:=(hO f hf1).1.lt;refine ⟨Nat.le_trans hsz (Nat.le_of_eq (eL us f.o w1).symm),upd x f.s v,hput f.s o ho x v,⟨hkW.trans hkp,cP (hO f hf1).2 us f.o w1 hb⟩,fun j hj=>?_,hcl',fun f' hfe hfa=>?_,fun f1 hfe f2 hfe' hne h1 h2=>?_,fun f' hfo=>?_⟩
  ·by_cases h:j=f.s
   ·subst h;exact hRi _ _
   rw [aH _ _ h];rw [ai hlt] at hj;exact hR _ _ _ _ (hr j (by simpa [h] using hj)) hkp
  ·rw [aH _ _ (hna f' hfe)]
   rw [ai hlt] at hfa;have n2:=hns f' hfe;obtain ⟨g',c',d1,d2,d3,d4,d5⟩:=hf f' hfe (by simpa [hna f' hfe] using hfa);refine ⟨g',c',d1,d2,cF (by omega) us f.o w1 d3,fun h=>d4 ?_,fun h=>hPS f' hfe _ _ _ (d5 ?_) hkp⟩
   ·rw [ai hlt] at h;simpa [n2] using h
   rw [ai hlt] at h;simpa [n2] using h
  ·rw [ai hlt] at h1 h2
   rw [aH _ _ (hna f1 hfe),aH _ _ (hna f2 hfe')];exact hd f1 hfe f2 hfe' hne (by simpa [hna f1 hfe] using h1) (by simpa [hna f2 hfe'] using h2)
  by_cases h:f'.s=f.s
  ·have:=huniq f' hfo h
   subst this;refine ⟨_,fl us f'.o w1 _ c1,fun h'=>?_,fun _=>hus _ hkp⟩;rw [ai hlt] at h';simp at h'
  obtain ⟨c',d3,d4,d5⟩:=how f' hfo;have hgg:f'.g≠f.g:=fun h2=>h (by rw [hOd f' hfo f hf1 h2])
  refine ⟨c',cF hgg us f.o w1 d3,fun h2=>d4 ?_,fun h2=>hPO f' hfo _ _ _ (d5 ?_) hkp⟩
  ·rw [ai hlt] at h2;simpa [h] using h2
  rw [ai hlt] at h2;simpa [h] using h2
 ·rintro L a w1 hs hr0 ⟨hsz,x,rfl,⟨hkW,hb⟩,hr,hcl,hf,hd,how⟩
  have hallL:∀ i,i < ops.size→L.getD i false=true:=by
   intro i
   induction i using Nat.strongRecOn with
   | ind i ih =>
    intro hi;cases h:L.getD i false
    ·exfalso
     have:i∈Region.ready .any ops L:=by
      refine mem_ready.2 ⟨?_,ops[i],Array.getElem?_eq_getElem hi,fun e he hbd=>?_⟩
      ·rw [Array.getD_eq_getD_getElem?,Array.getElem?_eq_getElem (by omega)] at h ⊢;exact h
      have h1:=hac i _ (Array.getElem?_eq_getElem hi) e he hbd;exact ih e.on h1 (by omega)
     rw [hr0] at this;cases this
    rfl
  refine hend x w1 hkW hb hsz (fun f hfo=>?_) (fun i hi=>hr i (hallL i hi)) (fun f hfe=>?_) (fun f hfe f' hfe' hne=>hd f hfe f' hfe' hne (hallL _ (hfs f hfe).1) (hallL _ (hfs f' hfe').1))
  ·obtain ⟨c,c1,c2,c3⟩:=how f hfo
   refine ⟨c,c1,fun h=>c2 ?_,fun h=>c3 (hallL _ h)⟩;rw [Array.getD_eq_getD_getElem?,Array.getElem?_eq_none (by omega)];rfl
  obtain ⟨g,c,e1,e2,e3,_,e5⟩:=hf f hfe (hallL _ (hfs f hfe).1);exact ⟨g,c,e1,e2,e3,e5 (hallL _ (hfs f hfe).2)⟩
 ·simp
 ·have hz:∀ j,(Array.replicate ops.size false).getD j false=false:=by
   intro j;rw [Array.getD_eq_getD_getElem?,Array.getElem?_replicate];split <;> rfl
  refine ⟨Qr,x0,rfl,⟨(Kp.refl w).drew,(Below.refl B w).drew⟩,fun i h=>?_,fun i o _ h=>?_,fun f _ h=>?_,fun f _ f' _ _ h=>?_,fun f hfo=>⟨_,(hO f hfo).1.drew,fun _=>rfl,fun h=>?_⟩⟩ <;> rw [hz] at h <;> cases h
end

theorem rM {ow:List Own}(h:ow.Pairwise (fun f f'=>f.g≠f'.g)):∀ f∈ow,∀ f'∈ow,f.g=f'.g→f=f':=by
 induction ow with
 | nil=>intro f hf;cases hf
 | cons a l ih =>
  obtain ⟨h1,h2⟩:=List.pairwise_cons.1 h;intro f hf f' hf' he;rcases List.mem_cons.1 hf with h3 | h3
  ·rcases List.mem_cons.1 hf' with h4 | h4
   ·rw [h3,h4]
   exact absurd (h3 ▸ he) (h1 _ h4)
  rcases List.mem_cons.1 hf' with h4 | h4
  ·exact absurd (h4 ▸ he).symm (h1 _ h3)
  exact ih h2 f h3 f' h4 he
def jC (S:Nat→Oper→Prop):Nat→List Oper→Prop
  | _,[]=>True
  | k,o :: l=>S k o∧jC S (k+1) l
theorem th {S:Nat→Oper→Prop}:∀ (l:List Oper) (k:Nat),jC S k l→∀ i o,l[i]?=some o→S (k+i) o:=by
 intro l
 induction l with
 | nil=>intro k _ i o h;simp at h
 | cons a l ih =>
  intro k h i o ho
  cases i with
  | zero=>simp at ho;subst ho;exact h.1
  | succ i =>
   have:=ih (k+1) h.2 i o (by simpa using ho);rw [show k+(i+1)=k+1+i by omega];exact this
theorem aG {S:Nat→Oper→Prop}{l:List Oper}(h:jC S 0 l):∀ i o,(l.toArray)[i]?=some o→S i o:=fun i o ho=>by
 have:=th l 0 h i o (by simpa using ho);rwa [Nat.zero_add] at this
def uV:Nat→List Oper→Bool
  | _,[]=>true
  | k,o :: l=>o.after.all (fun e=>!Region.binds .any e || decide (e.on < k)) && uV (k+1) l
theorem cd:∀ (l:List Oper) (k:Nat),uV k l=true→jC (fun i o=>∀ e∈o.after,Region.binds .any e=true→e.on < i) k l:=by
 intro l
 induction l with
 | nil=>intro k _;trivial
 | cons a l ih =>
  intro k h;simp only [uV,Bool.and_eq_true] at h;refine ⟨fun e he hb=>?_,ih _ h.2⟩;have:=(Array.all_eq_true_iff_forall_mem.1 h.1) e he;rw [hb] at this;simpa using this
def uW (p:Value→World→Prop):Prop:=∀ v w w',p v w→Kp w w'→p v w'
def jD:List (Value→World→Prop)→Prop
  | []=>True
  | p :: l=>uW p∧jD l
theorem jD.get:∀ (l:List (Value→World→Prop)),jD l→∀ i v w w',l.getD i (fun _ _=>True) v w→Kp w w'→l.getD i (fun _ _=>True) v w':=by
 intro l
 induction l with
 | nil=>intro _ i v w w' _ _;simp
 | cons p l ih =>
  intro h i v w w' hp hk
  cases i with
  | zero=>exact h.1 v w w' hp hk
  | succ i=>exact ih h.2 i v w w' hp hk
def PEq (u:Value):Value→World→Prop:=fun v _=>v=u
def od:Value→World→Prop:=fun _ _=>True
def VI (z:Int) (k:Nat):Value→World→Prop:=fun v w=>∃ b A n c,v=.agg #[.bool b,.slice A n c]∧IV w b A n c z k
def VQ (q:Rat) (k:Nat):Value→World→Prop:=fun v w=>∃ b A n c D m e,v=.agg #[.bool b,.slice A n c,.slice D m e]∧QV w b A n c D m e q k
theorem kF (u:Value):uW (PEq u):=fun _ _ _ h _=>h
theorem yA:uW od:=fun _ _ _ h _=>h
theorem stI (z:Int) (k:Nat):uW (VI z k):=fun _ _ _ ⟨b,A,n,c,e,h⟩ hk=>⟨b,A,n,c,e,h.keep hk⟩
theorem stQ (q:Rat) (k:Nat):uW (VQ q k):=fun _ _ _ ⟨b,A,n,c,D,m,e,h0,h⟩ hk=>⟨b,A,n,c,D,m,e,h0,h.keep hk⟩
def CQ (q:Rat) (k:Nat):Array Value→World→Prop:=fun v w=>∃ b A n c D m e,v=#[.bool b,.slice A n c,.slice D m e]∧QV w b A n c D m e q k
def oe:Array Value→World→Prop:=fun _ _=>True
theorem ls:∀ c w w',oe c w→Kp w w'→oe c w':=fun _ _ _ h _=>h
theorem scQ (q:Rat) (k:Nat):∀ c w w',CQ q k c w→Kp w w'→CQ q k c w':=fun _ _ _ ⟨b,A,n,c,D,m,e,h0,h⟩ hk=>⟨b,A,n,c,D,m,e,h0,h.keep hk⟩
def PV (w:World) (b:Bool) (A:Option Addr) (n c:Nat) (D:Option Addr) (m e:Nat) (b':Bool) (A':Option Addr) (n' c':Nat) (D':Option Addr) (m' e':Nat) (q:Rat) (k:Nat) (r:Rat) (j:Nat):Prop:=QV w b A n c D m e q k∧QV w b' A' n' c' D' m' e' r j
theorem PV.keep {w w':World}{b b':Bool}{A D A' D':Option Addr}{n c m e n' c' m' e' k j:Nat}{q r:Rat}(h:PV w b A n c D m e b' A' n' c' D' m' e' q k r j) (hk:Kp w w'):PV w' b A n c D m e b' A' n' c' D' m' e' q k r j:=⟨h.1.keep hk,h.2.keep hk⟩
theorem PV.belw {w w':World}{b b':Bool}{A D A' D':Option Addr}{n c m e n' c' m' e' k j:Nat}{q r:Rat}(h:PV w b A n c D m e b' A' n' c' D' m' e' q k r j) (hk:Below w.heap.size w w'):PV w' b A n c D m e b' A' n' c' D' m' e' q k r j:=⟨h.1.belw hk,h.2.belw hk⟩
theorem io (w:World) (b:Bool) (A:Option Addr) (n c:Nat) (D:Option Addr) (m e:Nat) (a:RD) (k:Nat) (v:Bool) (h:QD w b A n c D m e a k) (hk:k≤300000000) (hv:a.ok=v) :
 Calls Tryz.prog 135 #[.agg #[.bool b,.slice A n c,.slice D m e]] w (av w (.bool v)):=by subst hv;exact xt w b A n c D m e a k h hk
theorem nf (w:World) (b A n c D m e a k) (h:QD w b A n c D m e a k) (h0:0 < k) (hk:k≤300000000) (ho:a.ok=false∨n=0):Calls Tryz.prog 184 #[.agg #[.bool b,.slice A n c,.slice D m e]] w (mU w a.q.num a.q.den k):=by
 obtain ⟨v,hv⟩:∃ v,a.ok=v:=⟨_,rfl⟩;have hq:a.q.num=0∧(a.q.den:Int)=1:=yy (ho.imp id fun hn=>List.eq_nil_of_length_eq_zero (by rw [← h.2.1.2.1,hn]));rw [hq.1,hq.2];have en:v=true→((n:Int) == 0)=true:=fun e=>by rcases ho with h | h;rw [h] at hv;rw [← hv] at e;cases e;simp [h]
 have HV:=Qh hv;have H:=Qh h;clear hq hv ho h;go_in;go_upto_region 1 with fail;refine ef ?_;intro w1 hw1;have k1:B3 w w.heap.size 65 #[.bool b,.slice A n c,.slice D m e] 194 #[.bool false,.slice none 0 0] 194 #[.bool false,.slice none 0 0] w1:=by rw [hw1];exact ⟨((Blk.new w _ _).alloc _).alloc _,(ah _ _ _ (by simp)).alloc _,ah _ _ _ (by simp),(((aa w).alloc Qr _).alloc (by simp) _).alloc (by simp <;> omega) _⟩
 clear hw1;have y:=k1.s.v3;go_wp2_with fail;(refine (io _ b A n c D m e a k v (H.out.belw k1.q) hk HV.out).mono ?_);rintro e w2 ⟨rfl,hb2⟩;replace k1:=k1.call hb2;clear hb2 y;have y:=k1.s.v3;have key:∀ {P:Prop},(v=false→P)→(v=true→((n:Int) == 0)=true→P)→P:=fun h1 h2=>by cases v;exact h1 rfl;exact h2 rfl (en rfl)
 clear en;refine key (fun hv=>?_) (fun hv e1=>?_)
 all_goals
  subst hv;go_wp2_with fail;(refine (uT _).mono ?_);rintro e w3 ⟨b2,A2,n2,c2,rfl,h2,hb3⟩;replace k1:=k1.call hb3;clear hb3 y;have y:=And.intro k1.t.v2 k1.r.v2;go_wp2_with fail;refine bodyPost_ret (v:=.tuple #[.agg #[.bool false,.slice none 0 0],.agg #[.bool b2,.slice A2 n2 c2]]) (by simp [results,Tryz.results184,go_sem, *] <;> trivial) rfl ?_;have k2:=k1.p1 (.bool false) (.slice none 0 0);exact ⟨_,_,_,_,_,_,_,_,rfl,IV.zero _ _,(h2.keep ((k1.t.k2 (by decide) _ _).trans (k2.r.k2 (by decide) _ _))).mono (by omega),(k2.p2 _ _).q⟩
theorem ti (w:World) (b A n c D m e a k) (h:QD w b A n c D m e a k) (_:0 < k) (hk:k≤300000000) (ho:a.ok=true) (hn:a.num≠[]):Calls Tryz.prog 184 #[.agg #[.bool b,.slice A n c,.slice D m e]] w (mU w a.q.num a.q.den k):=by
 have HE:=Qh (AH h.2.1.1 h.2.2.1.1 ho hn);have hnp:0 < n:=by rcases Nat.eq_zero_or_pos n with h1 | h1;exact absurd (List.eq_nil_of_length_eq_zero (by rw [← h.2.1.2.1,h1])) hn;exact h1
 have en:((n:Int) == 0)=false:=by simp;omega
 have HO:=Qh ho;clear ho hn;go_in;go_upto_region 1 with fail;refine ef ?_;intro w1 hw1;have k1:B3 w w.heap.size 65 #[.bool b,.slice A n c,.slice D m e] 194 #[.bool false,.slice none 0 0] 194 #[.bool false,.slice none 0 0] w1:=by rw [hw1];exact ⟨((Blk.new w _ _).alloc _).alloc _,(ah _ _ _ (by simp)).alloc _,ah _ _ _ (by simp),(((aa w).alloc Qr _).alloc (by simp) _).alloc (by simp <;> omega) _⟩
 clear hw1;have y:=k1.s.v3;go_wp2_with fail;(refine (io _ b A n c D m e a k true (h.belw k1.q) hk HO.out).mono ?_);rintro e' w2 ⟨rfl,hb2⟩;replace k1:=k1.call hb2;replace h:=h.belw k1.q;clear hb2 y;have y:=And.intro k1.s.v3 (And.intro k1.t.v2 k1.r.v2);go_wp2_with fail;have k2:=(k1.p1 (.bool b) (.slice A n c)).p2 (.bool false) (.slice D m e);have kp:=(k1.t.k2 (by decide) (.bool b) (.slice A n c)).trans ((k1.p1 (.bool b) (.slice A n c)).r.k2 (by decide) (.bool false) (.slice D m e));have k3:=(k1.p2 (.bool false) (.slice D m e)).p1 (.bool b) (.slice A n c);have kp3:=(k1.r.k2 (by decide) (.bool false) (.slice D m e)).trans ((k1.p2 (.bool false) (.slice D m e)).t.k2 (by decide) (.bool b) (.slice A n c));go_region
 all_goals
  go_wp2_with fail;refine bodyPost_ret (v:=.tuple #[.agg #[.bool b,.slice A n c],.agg #[.bool false,.slice D m e]]) (by simp [results,Tryz.results184,go_sem, *] <;> trivial) rfl ?_;obtain ⟨e1,e2,e3⟩:=HE.out
  first
   | exact ⟨b,A,n,c,false,D,m,e,rfl,⟨h.1.symm.trans e2,e1 ▸ h.2.1.keep kp,h.2.2.2.1⟩,⟨by simp [wh],e3 ▸ h.2.2.1.keep kp,h.2.2.2.2⟩,k2.q⟩
   | exact ⟨b,A,n,c,false,D,m,e,rfl,⟨h.1.symm.trans e2,e1 ▸ h.2.1.keep kp.drew,h.2.2.2.1⟩,⟨by simp [wh],e3 ▸ h.2.2.1.keep kp.drew,h.2.2.2.2⟩,k2.q.drew⟩
   | exact ⟨b,A,n,c,false,D,m,e,rfl,⟨h.1.symm.trans e2,e1 ▸ h.2.1.keep kp3.drew,h.2.2.2.1⟩,⟨by simp [wh],e3 ▸ h.2.2.1.keep kp3.drew,h.2.2.2.2⟩,k3.q.drew⟩
theorem fm (w:World) (b A n c D m e q k) (h:QZ w b A n c D m e q k) (h0:0 < k) (hk:k≤300000000) :
 Calls Tryz.prog 184 #[.agg #[.bool b,.slice A n c,.slice D m e]] w (mU w q.num q.den k):=by
 obtain ⟨a,h,rfl⟩:=h;cases ho:a.ok
 ·exact nf w b A n c D m e a k h h0 hk (.inl ho)
 by_cases hn:n=0
 ·exact nf w b A n c D m e a k h h0 hk (.inr hn)
 exact ti w b A n c D m e a k h h0 hk ho (h.num_ne (by omega))
theorem uX (w:World) (b A n c D m e q k) (h:QZ w b A n c D m e q k) (h0:0 < k) (hk:k≤40000000) :
 Calls Tryz.prog 174 #[.agg #[.bool b,.slice A n c,.slice D m e]] w (av w (.int .i64 q.num.sign)):=by
 go_in;go_wp2_with fail;(with_reducible refine (fm _ b A n c D m e (q) (k) ?_ ?_ ?_).mono ?_);(exact (h.belw ((Below.refl _ _).alloc Qr _)));(omega);(omega);rintro e w1 ⟨b1,A1,n1,c1,b'1,A'1,n'1,c'1,rfl,h1,h'1,hb1⟩;have q1:=hb1.q1;replace h:=h.belw q1;have x1a:Blk w1 w.heap.size 65 #[.bool b,.slice A n c,.slice D m e]:=(ah _ _ _ (by simp)).below hb1 (by simp);have bw1:=(aa w).trans (q1.mono (aa w).size);have lw1:=hb1.l1;clear q1;go_wp2_with fail;(with_reducible refine (lq _ b1 A1 n1 c1 ((q).num) ((k)) ?_ ?_).mono ?_);(exact (h1.belw (((Below.refl _ _).alloc Qr _).alloc (by simp) _)).iz);(omega);rintro e w2 ⟨rfl,hb2⟩;have q2:=hb2.q2;replace h:=h.belw q2;replace h1:=h1.belw q2;replace h'1:=h'1.belw q2;replace x1a:=x1a.b q2;have x2a:Blk w2 w1.heap.size 194 #[.bool b1,.slice A1 n1 c1]:=((ah _ _ _ (by simp)).alloc _).below hb2 (by simp <;> omega);have x2b:=(ah _ _ _ (g:=w1.heap.size+1) (by simp)).below hb2 (by simp);have bw2:=bw1.trans (q2.mono bw1.size);have lw2:=hb2.l2;clear q2 bw1;go_wp2;go_ret;exact bV rfl bw2
theorem QK.qv {w:World}{b:Bool}{A D:Option Addr}{n c m e k:Nat}{q:Rat}(h:QK w b A n c D m e q k):QV w b A n c D m e q k:=by
 obtain ⟨a,h1,rfl,h2⟩:=h;unfold QV;rw [jl h1.2.1.1 h1.2.2.1.1 h2];exact h1
theorem TK.tv {w:World}{b x:Bool}{A D:Option Addr}{n c m e k:Nat}{t:TN}(h:TK w b A n c D m e x t k):TV w b A n c D m e x t k:=⟨h.1.qv,h.2⟩
def Ts (w:World) (g n k:Nat):Prop:=g < w.heap.size∧∀ i,i < n→∃ b A m c D m' e x t,w.cell? ⟨g,i * 4,none⟩=some (.bool b)∧w.cell? ⟨g,i * 4+1,none⟩=some (.slice A m c)∧w.cell? ⟨g,i * 4+2,none⟩=some (.slice D m' e)∧w.cell? ⟨g,i * 4+3,none⟩=some (.bool x)∧TK w b A m c D m' e x t k
theorem Ts.belw {w w':World}{g n k:Nat}(h:Ts w g n k) (hb:Below w.heap.size w w'):Ts w' g n k:=by
 obtain ⟨hg,h⟩:=h;have hc:=(ct hb).1;refine ⟨Nat.lt_of_lt_of_le hg hb.size,fun i hi=>?_⟩;obtain ⟨b,A,m,c,D,m',e,x,t,h1,h2,h3,h4,h5⟩:=h i hi;exact ⟨b,A,m,c,D,m',e,x,t,(hc _ _ hg).trans h1,(hc _ _ hg).trans h2,(hc _ _ hg).trans h3,(hc _ _ hg).trans h4,h5.belw hb⟩
def Rs (w:World) (g N:Nat) (ns ms:Nat→Nat):Prop:=g < w.heap.size∧∀ i,i < N→∃ b A c D e,w.cell? ⟨g,i * 3,none⟩=some (.bool b)∧w.cell? ⟨g,i * 3+1,none⟩=some (.slice A (ns i) c)∧w.cell? ⟨g,i * 3+2,none⟩=some (.slice D (ms i) e)
theorem Rs.belw {w w':World}{g N:Nat}{ns ms:Nat→Nat}(h:Rs w g N ns ms) (hb:Below w.heap.size w w'):Rs w' g N ns ms:=by
 obtain ⟨hg,h⟩:=h;have hc:=(ct hb).1;refine ⟨Nat.lt_of_lt_of_le hg hb.size,fun i hi=>?_⟩;obtain ⟨b,A,c,D,e,h1,h2,h3⟩:=h i hi;exact ⟨b,A,c,D,e,(hc _ _ hg).trans h1,(hc _ _ hg).trans h2,(hc _ _ hg).trans h3⟩
def Gs (w:World) (g N k:Nat) (rs:Nat→RD) (xs:Nat→Bool):Prop:=g < w.heap.size∧∀ i,i < N→∃ b A m c D m' e,w.cell? ⟨g,i * 4,none⟩=some (.bool b)∧w.cell? ⟨g,i * 4+1,none⟩=some (.slice A m c)∧w.cell? ⟨g,i * 4+2,none⟩=some (.slice D m' e)∧w.cell? ⟨g,i * 4+3,none⟩=some (.bool (xs i))∧QD w b A m c D m' e (rs i) k
theorem Gs.belw {w w':World}{g N k:Nat}{rs:Nat→RD}{xs:Nat→Bool}(h:Gs w g N k rs xs) (hb:Below w.heap.size w w'):Gs w' g N k rs xs:=by
 obtain ⟨hg,h⟩:=h;have hc:=(ct hb).1;refine ⟨Nat.lt_of_lt_of_le hg hb.size,fun i hi=>?_⟩;obtain ⟨b,A,m,c,D,m',e,h1,h2,h3,h4,h5⟩:=h i hi;exact ⟨b,A,m,c,D,m',e,(hc _ _ hg).trans h1,(hc _ _ hg).trans h2,(hc _ _ hg).trans h3,(hc _ _ hg).trans h4,h5.belw hb⟩
theorem og (w:World) (A n c l) (wa:Wd w A n c l) (A':Option Addr) (n' c':Nat) (wb:Wd w A' n' c' l) (hn:n≤1000000000) :
 Calls Tryz.prog 122 #[.slice A n c,.slice A' n' c'] w (av w (.bool true)):=by
 have hnn:n'=n:=by rw [wa.2.1,wb.2.1]
 subst hnn;have HA:=Qh wa;have HB:=Qh wb;clear wa wb;go_in;go_wp2_with fail;go_loopw [5] (fun iv wr=>∃ (i q:Nat),i≤n'∧iv=.int .i64 (i:Nat)∧wr=w.drewN q) (fun iv _=>n' - (intOf iv).toNat)
 case atStart=>exact ⟨0,0,Nat.zero_le _,rfl,rfl⟩
 case round =>
  obtain ⟨i,q,hi,rfl,rfl⟩:=hrel;by_cases hlt:i < n'
  ·obtain ⟨g,o,rfl,hc1⟩:=HA.out.at_ (by omega)
   obtain ⟨g',o',rfl,hc2⟩:=HB.out.at_ (by omega);have h1:=hc1 i hlt;have h2:=hc2 i hlt;have hi0:(0:Int)≤(i:Int):=by omega
   have hi1:(i:Int) < (n':Int):=by omega
   generalize wd l i=x at h1 h2;clear hc1 hc2;go_wp2_with fail;go_quiet (fail);go_wp2;go_roundw
   case rel=>exact ⟨i+1,_,by omega,by go_num,rfl⟩
   case measure=>simp [intOf];omega
  go_wp2;go_ret;exact bj rfl (by repeat (first | exact Below.refl _ _ | refine af ?_ _))
end Go.Proofs.YtfilnhompchciaaGreatDoor

/- Decimal texts: plain numbers and lists of bytes. -/
namespace Bn
open Go.Lib
theorem uY {q d:Nat}(hq:0 < q) (hd:d < 10):decDigits (q * 10+d)=decDigits q ++ [UInt8.ofNat (48+d)]:=by
 rw [decDigits,dif_neg (by omega),show (q * 10+d) / 10=q by omega,show (q * 10+d) % 10=d by omega]
def pr:Nat→Nat→List UInt8
  | 0,_=>[]
  | k+1,r=>pr k (r / 10) ++ [UInt8.ofNat (48+r % 10)]
theorem rN:∀ (k:Nat) {q r:Nat},0 < q→r < 10 ^ k→decDigits (q * 10 ^ k+r)=decDigits q ++ pr k r
 | 0,q,r,_,hr=>by
  have:r=0:=by simpa using hr
  subst this;simp [pr]
 | k+1,q,r,hq,hr=>by
  have h1:r / 10 < 10 ^ k:=by rw [Nat.pow_succ] at hr;omega
  have h2:0 < q * 10 ^ k:=Nat.mul_pos hq (Nat.pow_pos (by omega))
  have e:q * 10 ^ (k+1)+r=(q * 10 ^ k+r / 10) * 10+r % 10:=by
   rw [Nat.pow_succ,← Nat.mul_assoc];generalize q * 10 ^ k=P;omega
  rw [e,uY (by omega) (Nat.mod_lt _ (by omega)),rN k hq h1,pr,List.append_assoc]
theorem pt:∀ k,pr k 0=repeatL [48] k
 | 0=>rfl
 | k+1=>by rw [pr,pt k,repeatL_add,repeatL_one];rfl
theorem uZ:∀ {k r:Nat},0 < k→r < 10 ^ k→pr k r=repeatL [48] (k - nDigits r) ++ decDigits r
 | 0,_,h,_=>absurd h (by omega)
 | k+1,r,_,hr=>by
  rw [pr];by_cases h:r < 10
  ·rw [Nat.div_eq_of_lt h,pt,nDigits_small h,decDigits_one h,Nat.mod_eq_of_lt h];rfl
  have h0:k≠0:=by rintro rfl;exact h (by simpa using hr)
  rw [uZ (k:=k) (r:=r / 10) (by omega) (by rw [Nat.pow_succ] at hr;omega),nDigits_big h,List.append_assoc];congr 1
  ·congr 1;omega
  conv=>rhs;rw [decDigits,dif_neg h]
def mw (N q:Nat) (ps:List (List UInt8)):Prop:=(0 < q→decDigits N=decDigits q ++ ps.flatten)∧(q=0→decDigits N=ps.flatten)∧ps.length≤ps.flatten.length
theorem mw.start {N:Nat}(h:0 < N):mw N N []:=⟨fun _=>by simp,fun e=>absurd e (by omega),by simp⟩
theorem mw.more {N q:Nat}{ps:List (List UInt8)}(h:mw N q ps) (hq:0 < q / 1000000000) :
 mw N (q / 1000000000) ((repeatL [48] (9 - nDigits (q % 1000000000)) ++ decDigits (q % 1000000000)) :: ps):=by
 have hr:q % 1000000000 < 10 ^ 9:=Nat.mod_lt _ (by omega);have e:q / 1000000000 * 10 ^ 9+q % 1000000000=q:=by rw [Nat.mul_comm];exact Nat.div_add_mod q 1000000000
 refine ⟨fun _=>?_,fun e=>absurd e (by omega),?_⟩
 ·rw [h.1 (by omega),List.flatten_cons,← List.append_assoc,← uZ (by omega) hr,← rN 9 hq hr,e]
 have h3:=h.2.2;have h4:=nDigits_pos (q % 1000000000);simp only [List.length_cons,List.flatten_cons,List.length_append,decDigits_length];omega
theorem mw.last {N q:Nat}{ps:List (List UInt8)}(h:mw N q ps) (h0:0 < q) (hq:q / 1000000000=0) :
 mw N (q / 1000000000) (decDigits (q % 1000000000) :: ps):=by
 have e:q % 1000000000=q:=Nat.mod_eq_of_lt (by omega);rw [e];refine ⟨fun e=>absurd e (by omega),fun _=>?_,?_⟩
 ·rw [h.1 h0,List.flatten_cons]
 have h3:=h.2.2;have h4:=nDigits_pos q;simp only [List.length_cons,List.flatten_cons,List.length_append,decDigits_length];omega
theorem mw.len {N q:Nat}{ps:List (List UInt8)}(h:mw N q ps):ps.flatten.length≤nDigits N∧ps.length≤nDigits N:=by
 have h3:=h.2.2
 have:ps.flatten.length≤nDigits N:=by
  rw [← decDigits_length];rcases Nat.eq_zero_or_pos q with e | e
  ·rw [h.2.1 e];exact Qr
  rw [h.1 e,List.length_append];omega
 exact ⟨this,by omega⟩
theorem vc (z:Int):itoa z=(if z < 0 then [45] else []) ++ decDigits z.natAbs:=by
 unfold itoa;split
 ·rfl
 rw [show z.toNat=z.natAbs by omega];rfl
end Bn

/- Digits one by one; texts read as numbers: plain. -/
namespace Bn
open Go.Lib
def dg (V:Nat):List UInt8:=if V=0 then [] else decDigits V
theorem xx {V:Nat}(h:0 < V):dg V=dg (V / 10) ++ [UInt8.ofNat (48+V % 10)]:=by
 unfold dg;rw [if_neg (by omega)];by_cases h1:V < 10
 ·rw [if_pos (by omega),decDigits_one h1,Nat.mod_eq_of_lt h1];rfl
 rw [if_neg (by omega)];conv=>lhs;rw [decDigits,dif_neg h1]
def DgI (N q k r:Nat) (s:List UInt8):Prop:=decDigits N=dg (q * 10 ^ (9 - k)+r) ++ s∧r < 10 ^ (9 - k)
theorem DgI.start {N Q:Nat}{s:List UInt8}(h:decDigits N=dg Q ++ s):DgI N (Q / 1000000000) 0 (Q % 1000000000) s:=by
 refine ⟨?_,Nat.mod_lt _ (by decide)⟩;rw [show Q / 1000000000 * 10 ^ (9 - 0)+Q % 1000000000=Q by rw [Nat.mul_comm];exact Nat.div_add_mod Q 1000000000];exact h
theorem DgI.step {N q k r:Nat}{s:List UInt8}(h:DgI N q k r s) (hk:k < 9) (h0:0 < r∨0 < q):DgI N q (k+1) (r / 10) ([UInt8.ofNat (48+r % 10)] ++ s):=by
 obtain ⟨h1,h2⟩:=h;have e:10 ^ (9 - k)=10 ^ (9 - (k+1)) * 10:=by rw [← Nat.pow_succ];congr 1;omega
 rw [e] at h1 h2;have hp:0 < 10 ^ (9 - (k+1)):=Nat.pow_pos (by omega);unfold DgI;generalize 10 ^ (9 - (k+1))=P at *;have e2:q * (P * 10)+r=(q * P+r / 10) * 10+r % 10:=by rw [← Nat.mul_assoc];omega
 have h3:0 < q * (P * 10)+r:=by
  rcases h0 with h | h
  ·omega
  have:=Nat.mul_pos h (show 0 < P * 10 by omega);omega
 refine ⟨?_,by omega⟩;rw [h1,xx h3,e2,show ((q * P+r / 10) * 10+r % 10) / 10=q * P+r / 10 by omega,show ((q * P+r / 10) * 10+r % 10) % 10=r % 10 by omega,List.append_assoc]
theorem zz {N Q:Nat}{s:List UInt8}(h:decDigits N=dg Q ++ s):s.length≤nDigits N:=by
 rw [← decDigits_length,h,List.length_append];omega
theorem DgI.len {N q k r:Nat}{s:List UInt8}(h:DgI N q k r s):s.length≤nDigits N:=zz h.1

/-! ### Texts read -/
def aK (c:UInt8):Bool:=decide (48≤c.toNat) && decide (c.toNat≤57)
def iT (c:UInt8):Nat:=c.toNat - 48
def aj (l:List UInt8):Nat:=l.foldl (fun a c=>a * 10+iT c) 0
theorem tl (l:List UInt8):∀ a,l.foldl (fun a c=>a * 10+iT c) a=a * 10 ^ l.length+aj l:=by
 unfold aj
 induction l with
 | nil=>intro a;simp
 | cons x r ih =>
  intro a;rw [List.foldl_cons,ih,List.foldl_cons,ih (0 * 10+iT x),List.length_cons,Nat.pow_succ,Nat.add_mul];rw [Nat.zero_mul,Nat.zero_add,Nat.mul_assoc,Nat.mul_comm 10,Nat.add_assoc]
theorem fY (a b:List UInt8):aj (a ++ b)=aj a * 10 ^ b.length+aj b:=by
 conv=>lhs;unfold aj
 rw [List.foldl_append,tl];rfl
theorem fo (a:List UInt8) (c:UInt8):aj (a ++ [c])=aj a * 10+iT c:=by
 rw [fY];simp [aj]
theorem eS:∀ {l:List UInt8},l.all aK=true→aj l < 10 ^ l.length:=by
 intro l
 induction l with
 | nil=>intro _;simp [aj]
 | cons x r ih =>
  intro h;rw [List.all_cons,Bool.and_eq_true] at h;have h1:=ih h.2
  have hx:iT x≤9:=by
   have:=h.1;unfold aK at this;simp at this;unfold iT;omega
  have e:aj (x :: r)=iT x * 10 ^ r.length+aj r:=by
   have:=fY [x] r;simpa [aj] using this
  rw [e,List.length_cons,Nat.pow_succ];have:=Nat.mul_le_mul_right (10 ^ r.length) hx;omega
def bR (l:List UInt8):List UInt8:=match l with | 45 :: r=>r | l=>l
def cG (l:List UInt8):Bool:=match l with | 45 :: _=>true | _=>false
def okZ (l:List UInt8):Bool:=decide (bR l≠[]) && (bR l).all aK && !(decide ((bR l).head?=some 48) && (decide (1 < (bR l).length) || cG l))
def fc (l:List UInt8):Int:=if cG l then -(aj (bR l):Int) else aj (bR l)
theorem pu {d:Nat}(h:d < 10):aK (UInt8.ofNat (48+d))=true∧iT (UInt8.ofNat (48+d))=d:=by
 have e:(UInt8.ofNat (48+d)).toNat=48+d:=by simp;omega
 unfold aK iT;rw [e];simp;omega
theorem xy (n:Nat):(decDigits n).all aK=true∧aj (decDigits n)=n:=by
 induction n using Nat.strongRecOn with
 | ind n ih =>
  by_cases h:n < 10
  ·rw [decDigits_one h]
   have h1:=pu h;generalize UInt8.ofNat (48+n)=c at h1;refine ⟨by rw [List.all_cons,h1.1];rfl,?_⟩;rw [← List.nil_append [c],fo,h1.2];simp [aj]
  ·have e:decDigits n=decDigits (n / 10) ++ [UInt8.ofNat (48+n % 10)]:=by
    conv=>lhs;rw [decDigits,dif_neg h]
   have h1:=ih (n / 10) (by omega);have h2:=pu (Nat.mod_lt n (show 0 < 10 by omega));generalize UInt8.ofNat (48+n % 10)=c at h2 e;refine ⟨by rw [e,List.all_append,h1.1,List.all_cons,h2.1];rfl,?_⟩;rw [e,fo,h1.2,h2.2];omega
theorem ve {n:Nat}(h:0 < n):∃ c r,decDigits n=c :: r∧c≠48∧c≠45:=by
 induction n using Nat.strongRecOn with
 | ind n ih =>
  by_cases h1:n < 10
  ·rw [decDigits_one h1]
   refine ⟨_,[],rfl,?_,?_⟩
   ·intro e
    have:=congrArg UInt8.toNat e;simp at this;omega
   intro e;have:=congrArg UInt8.toNat e;simp at this;omega
  ·have e:decDigits n=decDigits (n / 10) ++ [UInt8.ofNat (48+n % 10)]:=by
    conv=>lhs;rw [decDigits,dif_neg h1]
   obtain ⟨c,r,h2,h3⟩:=ih (n / 10) (by omega) (by omega);exact ⟨c,r ++ [UInt8.ofNat (48+n % 10)],by rw [e,h2];rfl,h3⟩
theorem xz (z:Int):okZ (itoa z)=true∧fc (itoa z)=z:=by
 rw [vc];rcases Nat.eq_zero_or_pos z.natAbs with h | h
 ·have:z=0:=by omega
  subst this;rw [if_neg (by decide),show (0:Int).natAbs=0 from rfl,decDigits_one (by omega)];decide
 obtain ⟨c,r,e,h1,h2⟩:=ve h;have ha:=xy z.natAbs;by_cases hz:z < 0
 ·rw [if_pos hz]
  have et:bR ([45] ++ decDigits z.natAbs)=decDigits z.natAbs:=rfl;have em:cG ([45] ++ decDigits z.natAbs)=true:=rfl;unfold okZ fc;rw [et,em,ha.1,ha.2,e];simp [h1];omega
 rw [if_neg hz,List.nil_append];have et:bR (decDigits z.natAbs)=decDigits z.natAbs:=by rw [e];unfold bR;split <;> simp_all
 have em:cG (decDigits z.natAbs)=false:=by rw [e];unfold cG;split <;> simp_all
 unfold okZ fc;rw [et,em,ha.1,ha.2,e];simp [h1];omega
end Bn

/- Texts read as numbers: what the library's functions give on digits. Plain. -/
namespace Bn
open Go.Lib
theorem pw {c:UInt8}(h:aK c=true):digitVal c=some (iT c):=by
 unfold aK at h;rw [Bool.and_eq_true,decide_eq_true_eq,decide_eq_true_eq] at h;unfold digitVal iT;rw [if_pos h]
theorem qF:∀ {l:List UInt8},l.all aK=true→∀ acc,decFrom acc l=some (l.foldl (fun a c=>a * 10+iT c) acc):=by
 intro l
 induction l with
 | nil=>intro _ acc;rfl
 | cons x r ih =>
  intro h acc;rw [List.all_cons,Bool.and_eq_true] at h;rw [decFrom,pw h.1,List.foldl_cons];exact ih h.2 _
theorem vf {l:List UInt8}(h:l.all aK=true) (h0:l≠[]):atoi l=some (aj l:Int):=by
 cases l with
 | nil=>exact absurd rfl h0
 | cons x r =>
  have hx:aK x=true:=by rw [List.all_cons,Bool.and_eq_true] at h;exact h.1
  have h1:(x == 45)=false:=by
   apply Bool.eq_false_iff.2;intro e;rw [beq_iff_eq] at e;subst e;exact absurd hx (by decide)
  have h2:(x == 43)=false:=by
   apply Bool.eq_false_iff.2;intro e;rw [beq_iff_eq] at e;subst e;exact absurd hx (by decide)
  unfold atoi;dsimp only;rw [h1,h2];simp only [Bool.false_eq_true,if_false];unfold decNat;rw [if_neg (by simp),qF h];rfl
def lu:List UInt8:=[48,49,50,51,52,53,54,55,56,57]
theorem px (c:UInt8):lu.contains c=aK c:=by
 have h:∀ v:Fin 256,lu.contains (UInt8.ofNat v)=aK (UInt8.ofNat v):=by decide +kernel
 have:=h ⟨c.toNat,c.toNat_lt⟩;simpa using this
theorem fC {p:UInt8→Bool}:∀ {l:List UInt8},l.dropWhile p=[] ↔ l.all p=true:=by
 intro l
 induction l with
 | nil=>simp
 | cons x r ih =>
  by_cases h:p x=true
  ·rw [List.dropWhile_cons_of_pos h,ih,List.all_cons,h];simp
  rw [List.dropWhile_cons_of_neg h];simp [h]
theorem lx {p:UInt8→Bool}:∀ {l:List UInt8}{x:UInt8}{r:List UInt8},l.dropWhile p=x :: r→p x=false:=by
 intro l
 induction l with
 | nil=>intro x r h;simp at h
 | cons y s ih =>
  intro x r h;by_cases hy:p y=true
  ·rw [List.dropWhile_cons_of_pos hy] at h;exact ih h
  rw [List.dropWhile_cons_of_neg hy] at h;injection h with h1 h2;subst h1;simpa using hy
theorem xA {l:List UInt8}:trimS l lu=[] ↔ l.all aK=true:=by
 have hp:(fun b=>lu.contains b)=aK:=funext px;unfold trimS trimLeftS trimRightS;rw [hp];rw [fC,List.all_reverse];constructor
 ·intro h
  cases hd:l.reverse.dropWhile aK with
  | nil=>have:=fC.1 hd;rw [List.all_reverse] at this;exact this
  | cons x r =>
   rw [hd,List.all_cons,Bool.and_eq_true] at h;rw [lx hd] at h;exact absurd h.1 (by simp)
 intro h;rw [fC.2 (by rw [List.all_reverse];exact h)];rfl
theorem gN (l:List UInt8):hasPrefix l [45]=cG l:=by
 unfold hasPrefix cG
 cases l with
 | nil=>rfl
 | cons x r =>
  by_cases h:x=45
  ·subst h;rfl
  have e:(45 == x)=false:=by simp;exact fun e=>h e.symm
  simp only [List.isPrefixOf,e,Bool.false_and];split
  ·rename_i h1;injection h1 with h2;exact absurd h2 h
  rfl
theorem jE (l:List UInt8):trimPrefix l [45]=bR l:=by
 unfold trimPrefix;rw [gN];unfold cG bR;split
 ·rename_i r
  rfl
 rfl
theorem tm (l:List UInt8):(bR l).length≤l.length:=by
 unfold bR;split <;> simp
theorem oh (k:Nat):10 ^ k≤4294967296 ^ k:=Nat.pow_le_pow_left (by omega) k
theorem oi {l:List UInt8}(h:l.all aK=true):aj l < 4294967296 ^ l.length:=Nat.lt_of_lt_of_le (eS h) (oh _)
theorem py {l:List UInt8}{p:UInt8→Bool}(h:l.all p=true) (k:Nat):(l.take k).all p=true:=by
 rw [List.all_eq_true] at h ⊢;exact fun x hx=>h x (List.mem_of_mem_take hx)
theorem pz {l:List UInt8}{p:UInt8→Bool}(h:l.all p=true) (k:Nat):(l.drop k).all p=true:=by
 rw [List.all_eq_true] at h ⊢;exact fun x hx=>h x (List.mem_of_mem_drop hx)
def mz (t pre rest:List UInt8):Prop:=t=pre ++ rest∧(pre=[]∨rest.length % 9=0)
theorem mz.step {t pre rest:List UInt8}{n:Nat}(h:mz t pre rest) (h0:0 < rest.length) (hn:(rest.length - 1) % 9+1=n) :
 n≤rest.length∧n≤9∧0 < n∧mz t (pre ++ rest.take n) (rest.drop n)∧aj (pre ++ rest.take n)=aj pre * 1000000000+aj (rest.take n):=by
 have h1:n≤rest.length:=by have:=Nat.mod_le (rest.length - 1) 9;omega
 refine ⟨h1,by have:=Nat.mod_lt (rest.length - 1) (show 0 < 9 by omega);omega,by omega,⟨?_,?_⟩,?_⟩
 ·rw [List.append_assoc,List.take_append_drop];exact h.1
 ·right;rw [List.length_drop];omega
 rw [fY,List.length_take,Nat.min_eq_left h1];rcases h.2 with e | e
 ·subst e;simp [aj]
 have:n=9:=by omega
 subst this;rfl
theorem mz.start (t:List UInt8):mz t [] t:=⟨rfl,.inl rfl⟩
theorem mz.fin {t pre:List UInt8}(h:mz t pre []):pre=t:=by have:=h.1;rw [List.append_nil] at this;exact this.symm
theorem tp {l:List UInt8}(h:okZ l=true):bR l≠[]∧(bR l).all aK=true∧¬ ((bR l).head?=some 48∧(1 < (bR l).length∨cG l=true)):=by
 unfold okZ at h;simp at h;refine ⟨h.1.1,by simpa using h.1.2,fun ⟨a,b⟩=>?_⟩;rcases h.2 with e | e
 ·exact e a
 rcases b with b | b
 ·omega
 rw [b] at e;exact absurd e.2 (by simp)
end Bn

/- Division bit by bit: plain numbers. -/
namespace Bn
theorem vg {l:List Nat}(h:Wds l) (j:Nat):wd l j=val l / 4294967296 ^ j % 4294967296:=by
 have e:=aX l (show l.length≤j+(l.length+1) by omega);have h1:Sm (wd l) j < 4294967296 ^ j:=fj (fun i _=>bH h i);rw [qw,oS] at e;simp only [Nat.add_zero] at e;generalize Sm (fun i=>wd l (j+(i+1))) l.length=X at e;rw [← e,Nat.add_mul_div_left _ _ (gI j),Nat.div_eq_of_lt h1,Nat.zero_add,Nat.add_mul_mod_self_left];exact (Nat.mod_eq_of_lt (bH h j)).symm
theorem kd (i:Nat):4294967296 ^ (i / 32) * 2 ^ (i % 32)=2 ^ i:=by
 have:(4294967296:Nat) ^ (i / 32)=2 ^ (32 * (i / 32)):=by rw [Nat.pow_mul]
 rw [this,← Nat.pow_add,Nat.div_add_mod]
theorem zA {l:List Nat}(h:Wds l) (i:Nat):wd l (i / 32) / 2 ^ (i % 32) % 2=val l / 2 ^ i % 2:=by
 rw [vg h,← kd i,← Nat.div_div_eq_div_mul];generalize val l / 4294967296 ^ (i / 32)=x;have hs:i % 32 < 32:=Nat.mod_lt _ (by decide);generalize i % 32=s at *;have h1:=Nat.testBit_mod_two_pow x 32 s;simp only [hs,decide_true,Bool.true_and,Nat.testBit_eq_decide_div_mod_eq] at h1;have h2:(x % 2 ^ 32 / 2 ^ s % 2=1) ↔ (x / 2 ^ s % 2=1):=by simpa using h1
 have e:(2:Nat) ^ 32=4294967296:=by decide
 rw [e] at h2;omega
theorem xC (L:List Nat) (j x:Nat) (h:j < L.length):val (L.set j x)+wd L j * 4294967296 ^ j=val L+x * 4294967296 ^ j:=by
 have:=dJ L j x L.length h h;rw [aX (L.set j x) (by simp),aX L Qr] at this;exact this
theorem vh {x s:Nat}(hx:x % 2 ^ (s+1)=0):x ||| 2 ^ s=x+2 ^ s:=by
 have h:=Nat.shiftLeft_add_eq_or_of_lt (b:=2 ^ s) (i:=s+1) (Nat.pow_lt_pow_right (by omega) (by omega)) (x / 2 ^ (s+1));rw [Nat.shiftLeft_eq,Nat.div_mul_cancel (Nat.dvd_of_mod_eq_zero hx)] at h;exact h.symm
theorem zB {L:List Nat}(h:Wds L) (i:Nat) (hi:i / 32 < L.length) {m:Nat}(hv:val L=m * 2 ^ (i+1)) :
 wd L (i / 32) ||| 2 ^ (i % 32)=wd L (i / 32)+2 ^ (i % 32)∧wd L (i / 32)+2 ^ (i % 32) < 4294967296∧val (L.set (i / 32) (wd L (i / 32)+2 ^ (i % 32)))=val L+2 ^ i:=by
 have hs:i % 32 < 32:=Nat.mod_lt _ (by decide)
 have hx:wd L (i / 32) % 2 ^ (i % 32+1)=0:=by
  rw [vg h,hv,Nat.pow_succ,← kd i];have e1:m * (4294967296 ^ (i / 32) * 2 ^ (i % 32) * 2)=4294967296 ^ (i / 32) * (m * 2 ^ (i % 32+1)):=by rw [Nat.pow_succ];grind
  rw [e1,Nat.mul_div_cancel_left _ (gI _)];have e2:(4294967296:Nat)=2 ^ (i % 32+1) * 2 ^ (31 - i % 32):=by rw [← Nat.pow_add,show i % 32+1+(31 - i % 32)=32 by omega]
  rw [e2,Nat.mod_mul_right_mod,Nat.mul_mod_left]
 refine ⟨vh hx,?_,?_⟩
 ·have h1:wd L (i / 32) ||| 2 ^ (i % 32) < 2 ^ 32:=Nat.or_lt_two_pow (bH h _) (Nat.pow_lt_pow_right (by omega) hs)
  rw [vh hx] at h1;exact h1
 have h1:=xC L (i / 32) (wd L (i / 32)+2 ^ (i % 32)) hi;rw [Nat.add_mul,Nat.mul_comm (2 ^ (i % 32)),kd] at h1;omega
theorem pA (a k:Nat):a / 2 ^ k=2 * (a / 2 ^ (k+1))+a / 2 ^ k % 2:=by
 rw [Nat.pow_succ,← Nat.div_div_eq_div_mul];omega
theorem zC {a v k r:Nat}(hr:r=2 * (a / 2 ^ (k+1) % v)+a / 2 ^ k % 2) (h:v≤r) (hv:0 < v) :
 a / 2 ^ k / v=2 * (a / 2 ^ (k+1) / v)+1∧a / 2 ^ k % v=r - v:=by
 have e:=pA a k;generalize a / 2 ^ (k+1)=hi at *;generalize hb:a / 2 ^ k % 2=b at *;have hb1:b≤1:=by omega
 rw [e];have hm:=Nat.mod_lt hi hv;have hd:=Nat.div_add_mod hi v
 have e2:2 * hi+b=v * (2 * (hi / v)+1)+(r - v):=by
  rw [Nat.mul_add,Nat.mul_one];have:v * (2 * (hi / v))=2 * (v * (hi / v)):=by grind
  omega
 have hlt:r - v < v:=by omega
 rw [e2];constructor
 ·rw [Nat.mul_add_div hv,Nat.div_eq_of_lt hlt,Nat.add_zero]
 rw [Nat.mul_add_mod,Nat.mod_eq_of_lt hlt]
theorem xD {a v k r:Nat}(hr:r=2 * (a / 2 ^ (k+1) % v)+a / 2 ^ k % 2) (h:r < v) :
 a / 2 ^ k / v=2 * (a / 2 ^ (k+1) / v)∧a / 2 ^ k % v=r:=by
 have hv:0 < v:=by omega
 have e:=pA a k;generalize a / 2 ^ (k+1)=hi at *;generalize hb:a / 2 ^ k % 2=b at *;rw [e];have hd:=Nat.div_add_mod hi v
 have e2:2 * hi+b=v * (2 * (hi / v))+r:=by
  have:v * (2 * (hi / v))=2 * (v * (hi / v)):=by grind
  omega
 rw [e2];constructor
 ·rw [Nat.mul_add_div hv,Nat.div_eq_of_lt h,Nat.add_zero]
 rw [Nat.mul_add_mod,Nat.mod_eq_of_lt h]
def mA (l L:List Nat) (b k cr:Nat):Prop:=(∀ i,k≤i→wd L i=wd l i)∧Sm (wd L) k+cr * 4294967296 ^ k=2 * Sm (wd l) k+b
theorem mA.start (l:List Nat) (b:Nat):mA l l b 0 b:=⟨fun _ _=>rfl,by simp [Sm]⟩
theorem pB {x c:Nat}(hc:c≤1) (hx:x < 4294967296):(x * 2 % 4294967296 ||| c)=x * 2 % 4294967296+c∧x * 2 % 4294967296+c < 4294967296∧x / 2147483648≤1:=by
 refine ⟨?_,by omega,by omega⟩;have h:=Nat.shiftLeft_add_eq_or_of_lt (b:=c) (i:=1) (by omega) (x * 2 % 4294967296 / 2);rw [Nat.shiftLeft_eq,Nat.pow_one,show x * 2 % 4294967296 / 2 * 2=x * 2 % 4294967296 by omega] at h;exact h.symm
theorem mA.step {l L:List Nat}{b k cr x:Nat}(h:mA l L b k cr) (hx:wd l k=x) (hlt:x < 4294967296) (hk:k < L.length) :
 mA l (L.set k (x * 2 % 4294967296+cr)) b (k+1) (x / 2147483648):=by
 refine ⟨fun i hi=>?_,?_⟩
 ·rw [bQ,if_neg (by omega)];exact h.1 i (by omega)
 rw [cf _ _ _ hk,Sm,hx,Nat.pow_succ];have h2:=h.2;have e:x * 2 % 4294967296+x / 2147483648 * 4294967296=2 * x:=by omega
 have e2:x * 2 % 4294967296 * 4294967296 ^ k+x / 2147483648 * (4294967296 ^ k * 4294967296)=2 * (x * 4294967296 ^ k):=by
  have:(x * 2 % 4294967296+x / 2147483648 * 4294967296) * 4294967296 ^ k=2 * x * 4294967296 ^ k:=by rw [e]
  rw [Nat.add_mul] at this;have e3:x / 2147483648 * (4294967296 ^ k * 4294967296)=x / 2147483648 * 4294967296 * 4294967296 ^ k:=by grind
  rw [e3,← Nat.mul_assoc];exact this
 rw [Nat.add_mul];omega
theorem mA.fin {l L:List Nat}{b k cr:Nat}(h:mA l L b k cr) (hl:l.length=k) (hL:L.length=k) (hs:2 * val l+b < 4294967296 ^ k):val L=2 * val l+b:=by
 have h2:=h.2;rw [aX L (by omega),aX l (by omega)] at h2;rcases Nat.eq_zero_or_pos cr with e | e
 ·subst e;omega
 have:1 * 4294967296 ^ k≤cr * 4294967296 ^ k:=Nat.mul_le_mul_right _ e;omega
theorem vi {r v b m:Nat}(hr:r < v) (hv:v < 4294967296 ^ m) (hb:b≤1):2 * r+b < 4294967296 ^ (m+1):=by
 rw [Nat.pow_succ];omega
end Bn

/- Roots: plain numbers. -/
namespace Bn
theorem zD (k:Nat):2 ^ k * 2 ^ k=2 ^ (2 * k):=by rw [← Nat.pow_add];congr 1;omega
def ly (M r i:Nat):Prop:=r * r≤M∧M < (r+2 ^ i) * (r+2 ^ i)
theorem ly.start {M N:Nat}(h:M < 2 ^ N):ly M 0 (N / 2+1):=by
 refine ⟨Nat.zero_le _,?_⟩;rw [Nat.zero_add,zD];exact Nat.lt_of_lt_of_le h (Nat.pow_le_pow_right (by omega) (by omega))
theorem ly.no {M r i:Nat}(h:ly M r (i+1)) (hx:¬ (r+2 ^ i) * (r+2 ^ i)≤M):ly M r i:=⟨h.1,by omega⟩
theorem ly.fin {M r:Nat}(h:ly M r 0):isq M=r:=yP h.1 (by have:=h.2;simpa using this)
end Bn

/- Numbers of bits: plain numbers. -/
namespace Bn
theorem val_rep (n:Nat):val (List.replicate n 0)=0:=by
 induction n with
 | zero=>rfl
 | succ n ih=>rw [List.replicate_succ,val,ih]
end Bn
