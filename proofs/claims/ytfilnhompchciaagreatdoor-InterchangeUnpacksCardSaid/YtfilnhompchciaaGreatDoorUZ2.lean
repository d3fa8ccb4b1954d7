/- Part UZ2: lemmas and walks that the claim rests on. No claim is made here. -/
import Derived.Test.YtfilnhompchciaaGreatDoorUZ1
set_option linter.unusedVariables false
set_option maxHeartbeats 8000000
set_option maxRecDepth 100000
/- Integers and fractions as values: what the walks of the layers above lean on. -/
namespace Go.Proofs.YtfilnhompchciaaGreatDoor
open Go Go.RowKit Bn
attribute [local go_sem ↓] Go.wp_at_zero Go.wp_at_succ

def IZ(w:World)(b:Bool)(A:Option Addr)(n c:Nat)(z:Int)(k:Nat):Prop:=∃l,Wd w A n c l/\WD.z ⟨b,l⟩=z/\n<=k
def IV(w:World)(b:Bool)(A:Option Addr)(n c:Nat)(z:Int)(k:Nat):Prop:=b=(wh z).neg/\Wd w A n c (wh z).mag/\n<=k
def QD(w:World)(b:Bool)(A:Option Addr)(n c:Nat)(A':Option Addr)(n' c':Nat)(a:RD)(k:Nat):Prop:=a.neg=b/\Wd w A n c a.num/\Wd w A' n' c' a.den/\n<=k/\n'<=k
def QZ(w:World)(b:Bool)(A:Option Addr)(n c:Nat)(A':Option Addr)(n' c':Nat)(q:Rat)(k:Nat):Prop:=∃a,QD w b A n c A' n' c' a k/\a.q=q
def QV(w:World)(b:Bool)(A:Option Addr)(n c:Nat)(A':Option Addr)(n' c':Nat)(q:Rat)(k:Nat):Prop:=QD w b A n c A' n' c' (rd q) k
section
variable {w w':World}{b:Bool}{A A':Option Addr}{n c n' c' k j:Nat}{z:Int}{q:Rat}{a:RD}
theorem IV.iz(h:IV w b A n c z k):IZ w b A n c z k:=by
 obtain⟨rfl,a,d⟩:=h;exact⟨_,a,Ft z,d⟩
theorem IZ.belw(h:IZ w b A n c z k)(hb:Below w.heap.size w w'):IZ w' b A n c z k:=by
 obtain⟨l,d,a,f⟩:=h;exact⟨l,d.belw hb,a,f⟩
theorem IV.belw(h:IV w b A n c z k)(hb:Below w.heap.size w w'):IV w' b A n c z k:=⟨h.1,h.2.1.belw hb,h.2.2⟩
theorem IZ.keep(h:IZ w b A n c z k)(hb:Kp w w'):IZ w' b A n c z k:=by
 obtain⟨l,d,a,f⟩:=h;exact⟨l,d.keep hb,a,f⟩
theorem IV.keep(h:IV w b A n c z k)(hb:Kp w w'):IV w' b A n c z k:=⟨h.1,h.2.1.keep hb,h.2.2⟩
theorem IZ.mono(h:IZ w b A n c z k)(a:k<=j):IZ w b A n c z j:=by
 obtain⟨l,f,d,g⟩:=h;exact⟨l,f,d,Nat.le_trans g a⟩
theorem IV.mono(h:IV w b A n c z k)(a:k<=j):IV w b A n c z j:=⟨h.1,h.2.1,Nat.le_trans h.2.2 a⟩
theorem QD.belw(h:QD w b A n c A' n' c' a k)(hb:Below w.heap.size w w'):QD w' b A n c A' n' c' a k:=⟨h.1,h.2.1.belw hb,h.2.2.1.belw hb,h.2.2.2⟩
theorem QD.keep(h:QD w b A n c A' n' c' a k)(hb:Kp w w'):QD w' b A n c A' n' c' a k:=⟨h.1,h.2.1.keep hb,h.2.2.1.keep hb,h.2.2.2⟩
theorem QD.mono(h:QD w b A n c A' n' c' a k)(d:k<=j):QD w b A n c A' n' c' a j:=⟨h.1,h.2.1,h.2.2.1,Nat.le_trans h.2.2.2.1 d,Nat.le_trans h.2.2.2.2 d⟩
theorem QD.qz(h:QD w b A n c A' n' c' a k):QZ w b A n c A' n' c' a.q k:=⟨a,h,rfl⟩
theorem QZ.belw(h:QZ w b A n c A' n' c' q k)(hb:Below w.heap.size w w'):QZ w' b A n c A' n' c' q k:=by
 obtain⟨a,f,d⟩:=h;exact⟨a,f.belw hb,d⟩
theorem QZ.keep(h:QZ w b A n c A' n' c' q k)(hb:Kp w w'):QZ w' b A n c A' n' c' q k:=by
 obtain⟨a,f,d⟩:=h;exact⟨a,f.keep hb,d⟩
theorem QV.qz(h:QV w b A n c A' n' c' q k):QZ w b A n c A' n' c' q k:=⟨_,h,Fw q⟩
theorem QV.belw(h:QV w b A n c A' n' c' q k)(hb:Below w.heap.size w w'):QV w' b A n c A' n' c' q k:=QD.belw h hb
theorem QV.keep(h:QV w b A n c A' n' c' q k)(hb:Kp w w'):QV w' b A n c A' n' c' q k:=QD.keep h hb
theorem QV.mono(h:QV w b A n c A' n' c' q k)(a:k<=j):QV w b A n c A' n' c' q j:=QD.mono h a
theorem WD.z_lt{l:List Nat}(h:Wd w A n c l)(a:n<=k):(WD.z ⟨b,l⟩).natAbs<4294967296^k:=by
 have f:=h.vlt a;have d:=iK k;unfold WD.z;split
 ·simp only;split<;>omega
 simpa using d
theorem IZ.lt(h:IZ w b A n c z k):z.natAbs<4294967296^k:=by
 obtain⟨l,a,rfl,d⟩:=h;exact WD.z_lt a d
theorem QD.sz(h:QD w b A n c A' n' c' a k)(i:0<k):Sz a.q k:=by
 have f:=RD.q_num h.2.1.1 h.2.2.1.1;have g:=RD.q_den h.2.1.1 h.2.2.1.1;have l:=h.2.1.vlt h.2.2.2.1;have j:=h.2.2.1.vlt h.2.2.2.2;have m:1<4294967296^k:=Nat.one_lt_pow (by omega) (by omega);unfold Sz;rw[f,g];refine⟨?_,?_⟩
 ·unfold RD.n
  split
  ·split<;>omega
  simp;omega
 unfold RD.d;split<;>omega
theorem QZ.sz(h:QZ w b A n c A' n' c' q k)(d:0<k):Sz q k:=by
 obtain⟨a,f,rfl⟩:=h;exact f.sz d
theorem QV.mk_(a:Wd w A n c (rd q).num)(d:Wd w A' n' c' (rd q).den)(hb:(rd q).neg=b)(f:Sz q k):QV w b A n c A' n' c' q k:=by
 refine⟨hb,a,d,?_,?_⟩
 ·rw[a.2.1];exact ay f.1
 rw[d.2.1];unfold rd;simp only;split
 ·simp
 exact ay f.2
theorem IV.mk_(h:Wd w A n c (wh z).mag)(hb:b=(wh z).neg)(a:z.natAbs<4294967296^k):IV w b A n c z k :=
 ⟨hb,h,by rw[h.2.1];exact ay a⟩
end
def j8(w:World)(z:Int)(k:Nat)(e:Ending)(w':World):Prop:=∃b A n c,e=.returned (.agg #[.bool b,.slice A n c])/\IV w' b A n c z k/\Below w.heap.size w w'
def nG(w:World)(q:Rat)(k:Nat)(e:Ending)(w':World):Prop:=∃b A n c A' n' c',e=.returned (.agg #[.bool b,.slice A n c,.slice A' n' c'])/\QV w' b A n c A' n' c' q k/\Below w.heap.size w w'
def oc(w:World)(z z':Int)(k:Nat)(e:Ending)(w':World):Prop:=∃b A n c b' A' n' c',e=.returned (.tuple #[.agg #[.bool b,.slice A n c],.agg #[.bool b',.slice A' n' c']])/\IV w' b A n c z k/\IV w' b' A' n' c' z' k/\Below w.heap.size w w'
def CD(w:World)(v:Value)(z z':Int)(k:Nat)(e:Ending)(w':World):Prop:=∃b A n c b' A' n' c',e=.returned (.tuple #[.agg #[.bool b,.slice A n c],.agg #[.bool b',.slice A' n' c'],v])/\IV w' b A n c z k/\IV w' b' A' n' c' z' k/\Below w.heap.size w w'
def fg(w:World)(v:Value)(q:Rat)(k:Nat)(e:Ending)(w':World):Prop:=∃b A n c A' n' c',e=.returned (.tuple #[.agg #[.bool b,.slice A n c,.slice A' n' c'],v])/\QV w' b A n c A' n' c' q k/\Below w.heap.size w w'
theorem sK{a b K:Nat}(c:a<K)(hb:b<K):Nat.gcd a b<K:=by
 rcases Nat.eq_zero_or_pos a with rfl|h
 ·simpa using hb
 exact Nat.lt_of_le_of_lt (Nat.gcd_le_left _ h) c
theorem jU.i{w a:World}{z:Int}{k:Nat}{e:Ending}(h:jU w (wh z) e a)(d:z.natAbs<4294967296^k):j8 w z k e a:=by
 obtain⟨A,n,c,rfl,f,b⟩:=h;exact⟨_,A,n,c,rfl,IV.mk_ f rfl d,b⟩
section
variable (w:World) (b A n c z k) (h:IZ w b A n c z k) (b' A' n' c' z' k') (h':IZ w b' A' n' c' z' k')
include h
theorem tU(d:k<=1000000000):Calls Tryz.prog 190 #[.agg #[.bool b,.slice A n c]] w (j8 w (-z) k):=by
 have g:=h.lt;obtain⟨l,a,rfl,f⟩:=h;exact(Et w b A n c l a (by omega)).mono fun _ _ r=>r.i (by omega)
theorem De(d:k<=1000000000):Calls Tryz.prog 192 #[.agg #[.bool b,.slice A n c]] w (av w (.int .i64 z.sign)):=by
 obtain⟨l,a,rfl,f⟩:=h;exact xR w b A n c l a (by omega)
include h'
theorem qL(o:k+k'<=1000000000):Calls Tryz.prog 199 #[.agg #[.bool b,.slice A n c],.agg #[.bool b',.slice A' n' c']] w (j8 w (z*z') (k+k')):=by
 have m:=h.lt;have a:=h'.lt;obtain⟨l,g,rfl,p⟩:=h;obtain⟨f,d,rfl,j⟩:=h';exact(Eu w b A n c l g (by omega) b' A' n' c' f d (by omega)).mono fun _ _ r=>r.i (bR m a)
theorem yd(i:k+k'<=1000000000):Calls Tryz.prog 152 #[.agg #[.bool b,.slice A n c],.agg #[.bool b',.slice A' n' c']] w (av w (.int .i64 (dD z z'))):=by
 obtain⟨l,d,rfl,j⟩:=h;obtain⟨g,a,rfl,f⟩:=h';exact Ew w b A n c l d (by omega) b' A' n' c' g a (by omega)
theorem CE(o:k+k'<=1000000000):Calls Tryz.prog 153 #[.agg #[.bool b,.slice A n c],.agg #[.bool b',.slice A' n' c']] w (j8 w (Nat.gcd z.natAbs z'.natAbs:Nat) (k+k')):=by
 have m:=h.mono (Nat.le_add_right k k') |>.lt
 have a:=h'.mono (Nat.le_add_left k' k) |>.lt
 obtain⟨l,g,rfl,p⟩:=h;obtain⟨f,d,rfl,j⟩:=h';exact(EB w b A n c l g (by omega) b' A' n' c' f d (by omega)).mono fun _ _ r=>r.i (by simpa using sK m a)
theorem CF(y:k+k'<=1000000000)(a:z'≠0):Calls Tryz.prog 251 #[.agg #[.bool b,.slice A n c],.agg #[.bool b',.slice A' n' c']] w (CD w .nilIface (z/z') (z%z') (k+k')):=by
 have v:=h.mono (Nat.le_add_right k k') |>.lt
 have t:=h'.mono (Nat.le_add_left k' k) |>.lt
 obtain⟨l,s,rfl,x⟩:=h;obtain⟨q,d,rfl,i⟩:=h';refine(ED w b A n c l s (by omega) b' A' n' c' q d (by omega) a).mono fun _ _ r=>?_
 obtain⟨m,p,c1,o,u,c2,rfl,g,j,f⟩:=r;refine⟨_,m,p,c1,_,o,u,c2,rfl,IV.mk_ g rfl ?_,IV.mk_ j rfl ?_,f⟩
 ·exact Nat.lt_of_le_of_lt (Int.natAbs_ediv_le_natAbs _ _) v
 have B:=Int.emod_nonneg (WD.z ⟨b,l⟩) a;have C:=Int.emod_lt (WD.z ⟨b,l⟩) a;omega
end
theorem FC(w:World)(i:Int)(k:Nat)(b:-9223372036854775808<=i)(a:i<9223372036854775808)(c:i.natAbs<4294967296^k):Calls Tryz.prog 198 #[.int .i64 i] w (j8 w i k) :=
 (Fz w i b a).mono fun _ _ r=>r.i c
theorem EE(w:World)(i:Int)(b:-4294967296<i)(a:i<4294967296):Calls Tryz.prog 198 #[.int .i64 i] w (j8 w i 1):=FC w i 1 (by omega) (by omega) (by omega)
theorem QV.zero(w:World)(k:Nat):QV w false none 0 0 none 0 0 0 k:=by
 unfold QV;rw[tN];exact⟨rfl,Wd.nil_ w,Wd.nil_ w,by omega,by omega⟩
theorem IV.zero(w:World)(k:Nat):IV w false none 0 0 0 k:=⟨rfl,by have:(wh 0).mag=[]:=ax;rw[this];exact Wd.nil_ w,by omega⟩
theorem aj(w:World)(c:Array Value)(t:TypeId){g:Nat}(h:g=w.heap.size):Blk (w.alloc (.cells c t)) g t c:=by subst h;exact Blk.new w t c
theorem Blk.set_at{w:World}{g:Nat}{t:TypeId}{cs:Array Value}(h:Blk w g t cs)(i:Nat)(v:Value)(a:Array Value)(e:cs.setIfInBounds i v=a):Blk (w.setCell ⟨g,i,none⟩ v) g t a:=by subst e;exact h.set_ i v
theorem Blk.box{w:World}{g:Nat}{t:TypeId}{c:Array Value}(h:Blk w g t c)(a:noU c=true:=by rfl):Box w g t:=⟨c,_,h,a⟩
abbrev SeesX(G g:Nat)(W0 W:World):Prop:=((∀b o,b<G->b≠g->W.cell? ⟨b,o,none⟩=W0.cell? ⟨b,o,none⟩)/\(∀b o,b<G->W.frozen? ⟨b,o,none⟩=W0.frozen? ⟨b,o,none⟩))/\G<=W.heap.size
theorem SeesX.of{G g:Nat}{c W:World}(h:G<=c.heap.size)(hb:Below c.heap.size c W):SeesX G g c W :=
 ⟨⟨fun b o a _=>(dU hb).1 b o (Nat.lt_of_lt_of_le a h),fun b o a=>(dU hb).2 b o (Nat.lt_of_lt_of_le a h)⟩,Nat.le_trans h hb.size⟩
theorem SeesX.set{G g:Nat}{d W:World}(h:SeesX G g d W){i:Nat}{u:Value}:SeesX G g d (W.setCell ⟨g,i,none⟩ u):=by
 refine⟨⟨fun b o a c=>?_,fun b o a=>?_⟩,?_⟩
 ·rw[<-h.1.1 b o a c];unfold World.cell?;rw[so _ _ _ b c]
 ·rw[<-h.1.2 b o a];exact Hi ..
 have:=h.2;simp[World.setCell];exact this
theorem ye(i:Int):Rat.divInt i 1=(i:Rat):=by have:=nB (i:Rat);simpa using this.symm
theorem sign3(z:Int):z=0\/z.sign=1\/z.sign=-1:=by
 rcases GA z 0 with h|h|h
 ·exact .inr (.inr (F7 h))
 ·exact .inl h
 exact .inr (.inl (FX h))
theorem qM{z:Int}(h:z.sign=1):0<z:=GU.1 h
theorem od{z:Int}(h:z.sign=-1):0 < -z:=by have:=GF.1 h;omega
theorem yf{a b:Int}(h:0<b):((Nat.gcd a.natAbs b.natAbs:Nat):Int)≠0:=by
 have:0<Nat.gcd a.natAbs b.natAbs:=Nat.gcd_pos_of_pos_right _ (by omega);omega
theorem mn{a:Int}(g:Nat)(h:0<a):(wh (a/(g:Int))).mag=au (a.natAbs/g):=by
 have e:(a/(g:Int))=((a.natAbs/g:Nat):Int):=by
  rw[Int.natCast_ediv,Int.natAbs_of_nonneg (by omega)]
 rw[e];rfl
theorem yg{z d:Int}{q:Rat}(c:z.sign=1)(hd:0<d)(b:Rat.divInt z d=q):
 (rd q).num=(wh (z/((Nat.gcd z.natAbs d.natAbs:Nat):Int))).mag/\(rd q).den=(wh (d/((Nat.gcd z.natAbs d.natAbs:Nat):Int))).mag/\(rd q).neg=false:=by
 have a:=qM c;rw[<-b,kY (by omega) hd,mn _ a,mn _ hd];exact⟨rfl,rfl,by simp;omega⟩
theorem yh{z d:Int}{q:Rat}(c:z.sign=-1)(hd:0<d)(b:Rat.divInt z d=q):
 (rd q).num=(wh (-z/((Nat.gcd z.natAbs d.natAbs:Nat):Int))).mag/\(rd q).den=(wh (d/((Nat.gcd z.natAbs d.natAbs:Nat):Int))).mag/\(rd q).neg=true:=by
 have a:=od c;rw[<-b,kY (by omega) hd,mn _ a,mn _ hd,Int.natAbs_neg];exact⟨rfl,rfl,by simp;omega⟩
theorem iO(w:World)(b A n c z k)(h:IZ w b A n c z k)(s:Int)(d:z.sign=s)(a:k<=1000000000):Calls Tryz.prog 192 #[.agg #[.bool b,.slice A n c]] w (av w (.int .i64 s)):=by
 subst d;exact De w b A n c z k h a
theorem dm{P:Program}{c:Code}{Q:Exit->Act->World->Prop}{a:Act}{w:World}(h:∀w6,w6=w->Code.wp P c Q a w6):Code.wp P c Q a w:=h w rfl
section
variable {W w w':World}{g gs t t0 t1 t2:Nat}{c0 c1 c2:Array Value}{a0 a1 a2:Value}
theorem Blk.v2(h:Blk w g t #[a0,a1]):(w.cell? ⟨g,0,none⟩=some a0/\w.cell? ⟨g,1,none⟩=some a1)/\(w.frozen? ⟨g,0,none⟩=false/\w.frozen? ⟨g,1,none⟩=false)/\g<w.heap.size:=⟨h.c2,h.f2,h.lt⟩
theorem Blk.v3(h:Blk w g t #[a0,a1,a2]):(w.cell? ⟨g,0,none⟩=some a0/\w.cell? ⟨g,1,none⟩=some a1/\w.cell? ⟨g,2,none⟩=some a2)/\(w.frozen? ⟨g,0,none⟩=false/\w.frozen? ⟨g,1,none⟩=false/\w.frozen? ⟨g,2,none⟩=false)/\g<w.heap.size:=⟨h.c3,h.f3,h.lt⟩
theorem Blk.k2(h:Blk w g t #[a0,a1])(b:KT t=false)(a c:Value)(d:noU #[a0,a1]=true:=by rfl)(g0:uY a=true:=by rfl):Kp w ((w.setCell ⟨g,0,none⟩ a).setCell ⟨g,1,none⟩ c):=((Kp.refl w).sb (g) 0 (h.box d) b a).sb (g) 1 ((h.box d).set ⟨g,0,none⟩ a g0) b c
theorem Blk.k3(h:Blk w g t #[a0,a1,a2])(c:KT t=false)(a b f:Value)(d:noU #[a0,a1,a2]=true:=by rfl)(g0:uY a=true:=by rfl)(i:uY b=true:=by rfl):Kp w (((w.setCell ⟨g,0,none⟩ a).setCell ⟨g,1,none⟩ b).setCell ⟨g,2,none⟩ f):=(((Kp.refl w).sb (g) 0 (h.box d) c a).sb (g) 1 ((h.box d).set ⟨g,0,none⟩ a g0) c b).sb (g) 2 (((h.box d).set ⟨g,0,none⟩ a g0).set ⟨g,1,none⟩ b i) c f
structure B3 (W:World) (gs t0:Nat) (c0:Array Value) (t1:Nat) (c1:Array Value) (t2:Nat) (c2:Array Value) (w:World):Prop where
  s:Blk w gs t0 c0
  t:Blk w (gs+1) t1 c1
  r:Blk w (gs+1+1) t2 c2
  q:Below gs W w
theorem B3.call(h:B3 W gs t0 c0 t1 c1 t2 c2 w)(hb:Below w.heap.size w w'):B3 W gs t0 c0 t1 c1 t2 c2 w':=⟨h.s.below hb h.s.lt,h.t.below hb h.t.lt,h.r.below hb h.r.lt,h.q.trans (hb.mono (by have:=h.s.lt;omega))⟩
theorem B3.p0(h:B3 W gs t0 #[a0,a1] t1 c1 t2 c2 w)(a b:Value):B3 W gs t0 #[a,b] t1 c1 t2 c2 ((w.setCell ⟨gs,0,none⟩ a).setCell ⟨gs,1,none⟩ b) :=
 ⟨(h.s.set_ 0 a).set_ 1 b,(h.t.far (p:=⟨gs,0,none⟩) (by show gs+1≠gs;omega) a).far (p:=⟨gs,1,none⟩) (by show gs+1≠gs;omega) b,(h.r.far (p:=⟨gs,0,none⟩) (by show gs+1+1≠gs;omega) a).far (p:=⟨gs,1,none⟩) (by show gs+1+1≠gs;omega) b,(h.q.setCell (p:=⟨gs,0,none⟩) Qr a).setCell (p:=⟨gs,1,none⟩) Qr b⟩
theorem B3.p1(h:B3 W gs t0 c0 t1 #[a0,a1] t2 c2 w)(a b:Value):B3 W gs t0 c0 t1 #[a,b] t2 c2 ((w.setCell ⟨gs+1,0,none⟩ a).setCell ⟨gs+1,1,none⟩ b) :=
 ⟨(h.s.far (p:=⟨gs+1,0,none⟩) (by show gs≠gs+1;omega) a).far (p:=⟨gs+1,1,none⟩) (by show gs≠gs+1;omega) b,(h.t.set_ 0 a).set_ 1 b,(h.r.far (p:=⟨gs+1,0,none⟩) (by show gs+1+1≠gs+1;omega) a).far (p:=⟨gs+1,1,none⟩) (by show gs+1+1≠gs+1;omega) b,(h.q.setCell (p:=⟨gs+1,0,none⟩) (by show gs<=gs+1;omega) a).setCell (p:=⟨gs+1,1,none⟩) (by show gs<=gs+1;omega) b⟩
end
def sgz(z z':Int):Int:=if z'<0 then -z else z
theorem qN{z a:Int}{q:Rat}(d:z≠0)(hd:a≠0)(c:Rat.divInt z a=q):0<sgz a a/\Rat.divInt (sgz z a) (sgz a a)=q/\((sgz z a).sign=1\/(sgz z a).sign=-1):=by
 have b:∀x:Int,x≠0->x.sign=1\/x.sign=-1:=fun x f=>by
  rcases sign3 x with h|h|h
  ·exact absurd h f
  ·exact .inl h
  exact .inr h
 unfold sgz;split
 ·exact⟨by omega,by rw[me _ _ hd];exact c,b _ (by omega)⟩
 exact⟨by omega,c,b _ d⟩
theorem Ba{y d:Int}{q:Rat}(b:y.sign=1\/y.sign=-1)(hd:0<d)(a:Rat.divInt y d=q):
 (rd q).num=(wh (sgz y y/((Nat.gcd y.natAbs d.natAbs:Nat):Int))).mag/\(rd q).den=(wh (d/((Nat.gcd y.natAbs d.natAbs:Nat):Int))).mag/\(rd q).neg=decide (y.sign<0):=by
 unfold sgz;rcases b with h|h
 ·rw[kl (by have:=qM h;omega),h];exact yg h hd a
 rw[kZ (by have:=od h;omega),h];exact yh h hd a
theorem yi(w:World)(b A n c z k)(h:IZ w b A n c z k)(b' A' n' c' z' k')(C:IZ w b' A' n' c' z' k')(q:Rat)(K:Nat)(hd:z'≠0)(hq:Rat.divInt z z'=q)(hs:Sz q K)(hk:k+k'<=300000000):
 Calls Tryz.prog 228 #[.agg #[.bool b,.slice A n c],.agg #[.bool b',.slice A' n' c']] w (nG w q K):=by
 have HD:=Qh hd;have HQ:=Qh hq;have HS:=Qh hs;obtain⟨s,E⟩:=Z9 (z.sign);obtain⟨s',ab⟩:∃s,z'.sign=s:=⟨_,rfl⟩;have H1:=Qh E;have H2:=Qh ab;clear hd hq hs E ab;go_in;go_upto_region 1 with fail;refine dm ?_;intro w1 ac;have a:B3 w w.heap.size 194 #[.bool b,.slice A n c] 194 #[.bool b',.slice A' n' c'] 65 #[.bool false,.slice none 0 0,.slice none 0 0] w1:=by rw[ac];exact⟨((Blk.new w _ _).alloc _).alloc _,(aj _ _ _ (by simp)).alloc _,aj _ _ _ (by simp),(((aa w).alloc Qr _).alloc (by simp) _).alloc (by simp<;>omega) _⟩
 replace h:=h.belw a.q;replace C:=C.belw a.q;clear ac;have y:=a.s.v2;go_wp2_with fail;(refine(iO _ b A n c z k h s H1.out (by omega)).mono ?_);rintro e w2⟨rfl,J⟩;replace a:=a.call J;replace h:=h.belw J;replace C:=C.belw J;clear J y;by_cases hz:z=0
 ·obtain rfl:s=0:=by rw[<-H1.out,hz];rfl
  have aT:q=0:=by rw[<-HQ.out,hz,Rat.zero_divInt]
  subst aT;have y:=a.r.v3;go_wp2_with fail;refine zr1 (.agg #[.bool false,.slice none 0 0,.slice none 0 0]) ?_;exact⟨false,none,0,0,none,0,0,rfl,QV.zero _ _,((a.q.setCell (p:=⟨w.heap.size+1+1,0,none⟩) (by show w.heap.size<=w.heap.size+1+1;omega) (.bool false)).setCell (p:=⟨w.heap.size+1+1,1,none⟩) (by show w.heap.size<=w.heap.size+1+1;omega) (.slice none 0 0)).setCell (p:=⟨w.heap.size+1+1,2,none⟩) (by show w.heap.size<=w.heap.size+1+1;omega) (.slice none 0 0)⟩
 obtain⟨hp,ao,al⟩:=qN hz HD.out HQ.out;have HP:=Qh hp;have V:=Qh ao;have ad:=Qh al;have u1:(s==0)=false:=it.2 (by rw[<-H1.out];exact fun e=>hz (Gy.1 e));have u2:(s=0)=False:=by simpa using u1
 clear hz hp ao al HQ;have y:=a.t.v2;go_wp2_with fail;(refine(iO _ b' A' n' c' z' k' C s' H2.out (by omega)).mono ?_);rintro e w3⟨rfl,L⟩;replace a:=a.call L;replace h:=h.belw L;replace C:=C.belw L;clear L y;obtain⟨x,O⟩:∃y,sgz z z'=y:=⟨_,rfl⟩;obtain⟨Y,S⟩:∃y,sgz z' z'=y:=⟨_,rfl⟩;rw[O]at V ad;rw[S]at HP V;have W:=Qh O;have X:=Qh S;clear O S;go_upto_if 13 with fail;go_cut [] (fun G=>∃b8 A8 n8 Z R T n9 Q,B3 w w.heap.size 194 #[.bool b8,.slice A8 n8 Z] 194 #[.bool R,.slice T n9 Q] 65 #[.bool false,.slice none 0 0,.slice none 0 0] G/\IZ G b8 A8 n8 Z x k/\IZ G R T n9 Q Y k')
 case first =>
  have y:=a.s.v2;have y9:=a.t.v2;by_cases u:z'<0
  ·obtain rfl:s'=-1:=by rw[<-H2.out];exact GF.2 u
   obtain rfl:-z=x:=by rw[<-W.out];exact(kZ u).symm
   obtain rfl:-z'=Y:=by rw[<-X.out];exact(kZ u).symm
   clear u;go_wp2_with fail
   go_region_with (first
    |(go_at_call 190;(with_reducible refine(tU _ b A n c z k ?_ ?_).mono ?_);(first|exact h|exact h.belw (af (aa _) _)|fail);(omega);rintro e w5⟨b5,A5,n5,c5,rfl,I,M⟩;replace M:=ag (af (aa _) 1) M;replace C:=C.belw M;replace a:=a.call M;have y:=a.s.v2;have y9:=a.t.v2)
    |(go_at_call 190;(with_reducible refine(tU _ b' A' n' c' z' k' ?_ ?_).mono ?_);(exact C);(omega);rintro e w6⟨b6,A6,n6,c6,rfl,h6,aC⟩;replace I:=I.belw aC;replace a:=a.call aC;have y:=a.s.v2;have y9:=a.t.v2))
   all_goals
    go_wp2_with fail;go_meet;exact⟨_,_,_,_,_,_,_,_,(a.p0 _ _).p1 _ _,I.iz.keep ((a.s.k2 (by decide) _ _).trans ((a.p0 _ _).t.k2 (by decide) _ _)),h6.iz.keep ((a.s.k2 (by decide) _ _).trans ((a.p0 _ _).t.k2 (by decide) _ _))⟩
  have hp:0<z':=by have:=HD.out;omega
  obtain rfl:s'=1:=by rw[<-H2.out];exact GU.2 hp
  obtain rfl:z=x:=by rw[<-W.out];exact(kl u).symm
  obtain rfl:z'=Y:=by rw[<-X.out];exact(kl u).symm
  clear u hp;go_wp2_with fail;go_meet;exact⟨_,_,_,_,_,_,_,_,a,h,C⟩
 case rest =>
  clear a h C W X;obtain⟨b8,A8,n8,Z,R,T,n9,Q,a,B,f⟩:=hcut;rename World=>w7;have y:=And.intro a.s.v2 a.t.v2;go_wp2_with fail;(refine(CE _ b8 A8 n8 Z x k B R T n9 Q Y k' f (by omega)).mono ?_);rintro e w8⟨b3,A3,n3,c3,rfl,i,H⟩;replace a:=a.call H;replace B:=B.belw H;replace f:=f.belw H;obtain⟨g,hg⟩:∃g:Int,((Nat.gcd x.natAbs Y.natAbs:Nat):Int)=g:=⟨_,rfl⟩;have HG:=Qh hg;rw[hg]at i;clear H y hg;go_upto_region 6 with fail;refine dm ?_;intro w9 P;have q9:Below w8.heap.size w8 w9:=by rw[P];exact(aa w8).alloc Qr _
  have o:Blk w9 w8.heap.size 194 #[.bool b3,.slice A3 n3 c3]:=by rw[P];exact Blk.new w8 _ _
  replace B:=B.belw q9;replace f:=f.belw q9;replace i:=i.belw q9;have l9:=a.r.lt;replace a:=a.call q9;obtain⟨gg,aF⟩:∃g,w8.heap.size=g:=⟨_,rfl⟩;rw[aF]at o l9⊢;clear P q9 aF;obtain⟨s1,E⟩:∃s,x.sign=s:=⟨_,rfl⟩;have H3:=Qh E;clear E;have y:=a.s.v2;go_wp2_with fail;(refine(iO _ b8 A8 n8 Z x k B s1 H3.out (by omega)).mono ?_);rintro e a3⟨rfl,d⟩;replace a:=a.call d;replace B:=B.belw d;replace f:=f.belw d;replace i:=i.belw d;replace o:=o.b d;clear d y;obtain⟨y3,aS⟩:∃y,sgz x x=y:=⟨_,rfl⟩;have U:=Qh aS;clear aS;go_upto_if 24 with fail;obtain⟨m,hm⟩:=Z9 (decide (s1<0));rw[hm];have HM:=Qh hm;clear hm;go_cut [] (fun G=>∃b4 A4 n4 c4,B3 w w.heap.size 194 #[.bool b4,.slice A4 n4 c4] 194 #[.bool R,.slice T n9 Q] 65 #[.bool false,.slice none 0 0,.slice none 0 0] G/\Blk G gg 194 #[.bool b3,.slice A3 n3 c3]/\IZ G b4 A4 n4 c4 y3 k/\IZ G R T n9 Q Y k'/\IZ G b3 A3 n3 c3 g (k+k'))
  case first =>
   have y:=a.s.v2;by_cases u:x<0
   ·obtain rfl:m=true:=by rw[<-HM.out,<-H3.out,GF.2 u];rfl
    obtain rfl:-x=y3:=by rw[<-U.out];exact(kZ u).symm
    clear u;go_wp2_with fail;(refine(tU _ b8 A8 n8 Z x k B (by omega)).mono ?_);rintro e a0⟨b4,A4,n4,c4,rfl,h4,l⟩;replace a:=a.call l;replace o:=o.b l;replace f:=f.belw l;replace i:=i.belw l;have y:=a.s.v2;go_wp2_with fail;go_meet;have D:=a.s.k2 (by decide) (.bool b4) (.slice A4 n4 c4);exact⟨_,_,_,_,a.p0 _ _,(o.far (p:=⟨w.heap.size,0,none⟩) (by show gg≠w.heap.size;omega) _).far (p:=⟨w.heap.size,1,none⟩) (by show gg≠w.heap.size;omega) _,h4.iz.keep D,f.keep D,i.iz.keep D⟩
   obtain rfl:x=y3:=by rw[<-U.out];exact(kl u).symm
   obtain rfl:m=false:=by rw[<-HM.out,<-H3.out];exact yB (by have:=Int.sign_nonneg_iff.2 (Int.not_lt.1 u);omega)
   clear u;go_wp2_with fail;go_meet;exact⟨_,_,_,_,a,o,B,f,i.iz⟩
  case rest =>
   clear a o B f i;obtain⟨b4,A4,n4,c4,a,o,B,f,i⟩:=hcut;rename World=>w12;have g0:g≠0:=by rw[<-HG.out];exact yf HP.out
   have y:=And.intro a.s.v2 o.v2;go_wp2_with fail;(refine(CF _ b4 A4 n4 c4 y3 k B b3 A3 n3 c3 g (k+k') i (by omega) g0).mono ?_);rintro e a1⟨b5,A5,n5,c5,_,_,_,_,rfl,I,_,j⟩;replace a:=a.call j;replace o:=o.b j;replace f:=f.belw j;replace i:=i.belw j;clear j y;have y:=a.s.v2;go_upto_region 10 with fail;refine dm ?_;intro a2 N;have D:=a.s.k2 (by decide) (.bool b5) (.slice A5 n5 c5);have k2:=a.p0 (.bool b5) (.slice A5 n5 c5);have an:=(o.far (p:=⟨w.heap.size,0,none⟩) (by show gg≠w.heap.size;omega) (.bool b5)).far (p:=⟨w.heap.size,1,none⟩) (by show gg≠w.heap.size;omega) (.slice A5 n5 c5);rw[<-N]at D k2 an;replace I:=I.keep D;replace f:=f.keep D;replace i:=i.keep D;clear N D a o y;have y:=And.intro k2.t.v2 an.v2;go_wp2_with fail;(refine(CF _ R T n9 Q Y k' f b3 A3 n3 c3 g (k+k') i (by omega) g0).mono ?_);rintro e aZ⟨b6,A6,n6,c6,_,_,_,_,rfl,h6,_,F⟩;replace k2:=k2.call F;replace I:=I.belw F;clear F y;have y:=And.intro k2.s.v2 (And.intro k2.t.v2 k2.r.v3);go_wp2_with fail;refine zr1 (.agg #[.bool m,.slice A5 n5 c5,.slice A6 n6 c6]) ?_;clear y;have k3:=k2.p1 (.bool b6) (.slice A6 n6 c6);have D:=(k2.t.k2 (by decide) (.bool b6) (.slice A6 n6 c6)).trans (k3.r.k3 (by decide) (.bool m) (.slice A5 n5 c5) (.slice A6 n6 c6));obtain⟨e1,e2,e3⟩:=Ba ad.out HP.out V.out;rw[HG.out]at e1 e2;rw[U.out]at e1;rw[H3.out,HM.out]at e3;exact⟨_,_,_,_,_,_,_,rfl,QV.mk_ (by rw[e1];exact I.2.1.keep D) (by rw[e2];exact h6.2.1.keep D) e3 HS.out,((k3.q.setCell (p:=⟨w.heap.size+1+1,0,none⟩) (by show w.heap.size<=w.heap.size+1+1;omega) _).setCell (p:=⟨w.heap.size+1+1,1,none⟩) (by show w.heap.size<=w.heap.size+1+1;omega) _).setCell (p:=⟨w.heap.size+1+1,2,none⟩) (by show w.heap.size<=w.heap.size+1+1;omega) _⟩

section
variable {w:World}{b:Bool}{A:Option Addr}{n c:Nat}{D:Option Addr}{m e:Nat}{a:RD}{k:Nat}(h:QD w b A n c D m e a k)
include h
theorem CG(c:n=0)(f:m=0):a.ok=!b:=by
 have g:a.num=[]:=lq (by rw[<-h.2.1.2.1,c]);have d:a.den=[]:=lq (by rw[<-h.2.2.1.2.1,f]);unfold RD.ok;rw[kZ ⟨g,d⟩,h.1]
theorem QD.num_ne(b:0<n):a.num≠[]:=by intro e;have:=h.2.1.2.1;rw[e]at this;simp at this;omega
theorem QD.den_ne_(b:0<m):a.den≠[]:=by intro e;have:=h.2.2.1.2.1;rw[e]at this;simp at this;omega
theorem EF(b:n=0)(c:0<m):a.ok=false:=by
 have d:a.num=[]:=lq (by rw[<-h.2.1.2.1,b]);unfold RD.ok;rw[kl (by intro x;exact h.den_ne_ c x.2)];simp[d]
theorem EG(b:0<n)(d:m=0):a.ok=false:=by
 have c:a.den=[]:=lq (by rw[<-h.2.2.1.2.1,d]);unfold RD.ok;rw[kl (by intro x;exact h.num_ne b x.1)];simp[c]
omit h in
theorem yj{l:List Nat}(a:l≠[]):WD.ok ⟨false,l⟩=last0 l:=by unfold WD.ok last0;simp[a]
theorem Df(f:0<n)(d:0<m):a.ok=(WD.ok ⟨false,a.num⟩&&WD.ok ⟨false,a.den⟩&&Nat.gcd (val a.num) (val a.den)==1):=by
 have b:=h.num_ne f;have c:=h.den_ne_ d;unfold RD.ok;have f1:(a.num != [])=true:=F6.2 b;have f2:(a.den != [])=true:=F6.2 c;rw[kl (by intro x;exact b x.1),yj b,yj c,f1,f2];rfl
theorem QD.num_z(b:WD.ok ⟨false,a.num⟩=true):IZ w false A n c (val a.num:Int) k:=⟨_,h.2.1,by simp[WD.z,b],h.2.2.2.1⟩
theorem QD.den_z(b:WD.ok ⟨false,a.den⟩=true):IZ w false D m e (val a.den:Int) k:=⟨_,h.2.2.1,by simp[WD.z,b],h.2.2.2.2⟩
end
theorem tV{x y:Nat}{s:Int}{r:Bool}(d:dD ((Nat.gcd ((x:Int)).natAbs ((y:Int)).natAbs:Nat)) 1=s)(b:r=(Nat.gcd x y==1)):(s==0)=r:=by
 subst d b;simp only[Hz];generalize Nat.gcd x y=g;unfold dD;by_cases h1:g=1
 ·subst h1;rfl
 by_cases h2:g<1
 ·have:g=0:=by omega
  subst this;rfl
 have c:¬((g:Int)<1):=by omega
 have a:¬((g:Int)=1):=by omega
 simp[h1,c,a]
theorem oe(w:World)(b:Bool)(A:Option Addr)(n c:Nat)(v:Bool)(l:List Nat)(h:Wd w A n c l)(a:WD.ok ⟨b,l⟩=v)(d:n<=1000000000):
 Calls Tryz.prog 151 #[.agg #[.bool b,.slice A n c]] w (av w (.bool v)):=by subst a;exact ko w b A n c l h (by omega)
theorem Bb(w:World)(b A n c z k)(h:IZ w b A n c z k)(b' A' n' c' z' k')(d:IZ w b' A' n' c' z' k')(s:Int)(f:dD z z'=s)(a:k+k'<=1000000000):
 Calls Tryz.prog 152 #[.agg #[.bool b,.slice A n c],.agg #[.bool b',.slice A' n' c']] w (av w (.int .i64 s)):=by subst f;exact yd w b A n c z k h b' A' n' c' z' k' d a
theorem tW(w:World):
 Calls Tryz.prog 154 #[] w (j8 w 1 1):=by
 go_in;go_wp2_with fail;refine(EE _ (1) ?_ ?_).mono ?_;(omega);(omega);rintro e i⟨c,d,f,c1,rfl,l,b⟩;have q1:=b.q1;have a:Blk i w.heap.size 194 #[.bool false,.slice none 0 0]:=(aj _ _ _ (by simp)).below b (by simp);have g:=(aa w).trans (q1.mono (aa w).size);have m:=b.l1;clear q1;have j:=a.c2;have h:=a.f2;have k:=fd a.lt;go_wp2_with fail;refine zr1 (.agg #[.bool c,.slice d f c1]) ?_;exact⟨c,d,f,c1,rfl,l.keep (((Kp.refl i).sb w.heap.size 0 a.box (by decide) (.bool c)).sb w.heap.size 1 (a.box.set ⟨w.heap.size,0,none⟩ (.bool c)) (by decide) (.slice d f c1)),((g.sc w.heap.size 0 (by omega) (.bool c)).sc w.heap.size 1 (by omega) (.slice d f c1))⟩
theorem vn(w:World)(b A n c D m e a k)(h:QD w b A n c D m e a k)(x:k<=300000000)(v:n=0\/m=0):Calls Tryz.prog 112 #[.agg #[.bool b,.slice A n c,.slice D m e]] w (av w (.bool a.ok)):=by
 rcases Nat.eq_zero_or_pos n with o|o
 ·rcases Nat.eq_zero_or_pos m with l|l
  ·subst o l
   rw[CG h rfl rfl];go_in;go_wp2;go_ret;exact⟨rfl,(aa w).alloc Qr _⟩
  rw[EF h o l];have B:((n:Int)==0)=true:=by simp[o]
  have z:((m:Int)==0)=false:=by simp;omega
  clear o l v x h;go_in;go_upto_region 1 with fail;refine dm ?_;intro i f;have g:Blk i w.heap.size 65 #[.bool b,.slice A n c,.slice D m e]:=by rw[f];exact Blk.new w _ _
  have d:Below w.heap.size w i:=by rw[f];exact(aa w).alloc Qr _
  clear f;have y:=g.v3;go_upto_region 3 with fail;go_cut [3,4] (fun u r j=>∃q p,u=.pointer (some ⟨q,0,none⟩)/\r=.pointer (some ⟨p,0,none⟩)/\Blk j q 194 #[.bool false,.slice A n c]/\Blk j p 194 #[.bool false,.slice D m e]/\Blk j w.heap.size 65 #[.bool b,.slice A n c,.slice D m e]/\Below i.heap.size i j)
  case first =>
   go_region
   all_goals
    go_wp2_with fail;go_meet
    first
     |exact⟨_,_,rfl,rfl,((aj _ _ _ rfl).alloc _).drew,(aj _ _ _ (by simp)).drew,((g.alloc _).alloc _).drew,((((kz _ _).alloc Qr _).alloc (by simp) _).drew)⟩
     |exact⟨_,_,rfl,rfl,(aj _ _ _ (by simp)).drew,((aj _ _ _ rfl).alloc _).drew,((g.alloc _).alloc _).drew,((((kz _ _).alloc Qr _).alloc (by simp) _).drew)⟩
  case rest =>
   clear g y;obtain⟨q,p,rfl,rfl,s,t,g,q1⟩:=hcut;rename World=>w2;replace d:=d.trans (q1.mono d.size);clear q1;have y:=And.intro g.v3 (And.intro s.v2 t.v2);go_wp2;go_ret;exact⟨rfl,d⟩
 have l:m=0:=by omega
 rw[EG h o l];have B:((n:Int)==0)=false:=by simp;omega
 have z:((m:Int)==0)=true:=by simp[l]
 clear o l v x h;go_in;go_upto_region 1 with fail;refine dm ?_;intro i f;have g:Blk i w.heap.size 65 #[.bool b,.slice A n c,.slice D m e]:=by rw[f];exact Blk.new w _ _
 have d:Below w.heap.size w i:=by rw[f];exact(aa w).alloc Qr _
 clear f;have y:=g.v3;go_upto_region 3 with fail;go_cut [3,4] (fun u r j=>∃q p,u=.pointer (some ⟨q,0,none⟩)/\r=.pointer (some ⟨p,0,none⟩)/\Blk j q 194 #[.bool false,.slice A n c]/\Blk j p 194 #[.bool false,.slice D m e]/\Blk j w.heap.size 65 #[.bool b,.slice A n c,.slice D m e]/\Below i.heap.size i j)
 case first =>
  go_region
  all_goals
   go_wp2_with fail;go_meet
   first
    |exact⟨_,_,rfl,rfl,((aj _ _ _ rfl).alloc _).drew,(aj _ _ _ (by simp)).drew,((g.alloc _).alloc _).drew,((((kz _ _).alloc Qr _).alloc (by simp) _).drew)⟩
    |exact⟨_,_,rfl,rfl,(aj _ _ _ (by simp)).drew,((aj _ _ _ rfl).alloc _).drew,((g.alloc _).alloc _).drew,((((kz _ _).alloc Qr _).alloc (by simp) _).drew)⟩
 case rest =>
  clear g y;obtain⟨q,p,rfl,rfl,s,t,g,q1⟩:=hcut;rename World=>w2;replace d:=d.trans (q1.mono d.size);clear q1;have y:=And.intro g.v3 (And.intro s.v2 t.v2);go_wp2;go_ret;exact⟨rfl,d⟩
theorem Bc(w:World)(b A n c D m e a k)(h:QD w b A n c D m e a k)(Z:k<=300000000):Calls Tryz.prog 112 #[.agg #[.bool b,.slice A n c,.slice D m e]] w (av w (.bool a.ok)):=by
 by_cases L:n=0\/m=0
 ·exact vn w b A n c D m e a k h Z L
 have M:0<n:=by omega
 have J:0<m:=by omega
 have W:=h.2.2.2.1;have ab:=h.2.2.2.2;have q:=Df h M J;have e1:((n:Int)==0)=false:=by simp;omega
 have e2:((m:Int)==0)=false:=by simp;omega
 obtain⟨u,B⟩:=Z9 (WD.ok ⟨false,a.num⟩);obtain⟨v,C⟩:=Z9 (WD.ok ⟨false,a.den⟩);rw[q,B,C];have P:=Qh B;have Q:=Qh C;have H:=Qh h;clear L M J q B C h;go_in;go_upto_region 1 with fail;refine dm ?_;intro x o;have p:Blk x w.heap.size 65 #[.bool b,.slice A n c,.slice D m e]:=by rw[o];exact Blk.new w _ _
 have d:Below w.heap.size w x:=by rw[o];exact(aa w).alloc Qr _
 clear o;have y:=p.v3;go_upto_region 3 with fail;go_cut [3,4] (fun X S t=>∃I z,X=.pointer (some ⟨I,0,none⟩)/\S=.pointer (some ⟨z,0,none⟩)/\Blk t I 194 #[.bool false,.slice A n c]/\Blk t z 194 #[.bool false,.slice D m e]/\Blk t w.heap.size 65 #[.bool b,.slice A n c,.slice D m e]/\Below x.heap.size x t)
 case first =>
  go_region
  all_goals
   go_wp2_with fail;go_meet
   first
    |exact⟨_,_,rfl,rfl,((aj _ _ _ rfl).alloc _).drew,(aj _ _ _ (by simp)).drew,((p.alloc _).alloc _).drew,((((kz _ _).alloc Qr _).alloc (by simp) _).drew)⟩
    |exact⟨_,_,rfl,rfl,(aj _ _ _ (by simp)).drew,((aj _ _ _ rfl).alloc _).drew,((p.alloc _).alloc _).drew,((((kz _ _).alloc Qr _).alloc (by simp) _).drew)⟩
 case rest =>
  clear p y;obtain⟨I,z,rfl,rfl,i,j,p,q1⟩:=hcut;rename World=>w2;replace d:=d.trans (q1.mono d.size);clear q1;have y:=And.intro p.v3 (And.intro i.v2 j.v2);go_wp2_with fail;(refine(oe _ false A n c u a.num (H.out.2.1.belw d) P.out (by omega)).mono ?_);rintro e w3⟨rfl,g⟩;replace d:=d.trans (g.mono d.size);replace i:=i.b g;replace j:=j.b g;clear g y p;cases u
  ·go_wp2
   go_ret;exact⟨rfl,d⟩
  have y:=And.intro i.v2 j.v2;go_wp2_with fail;(refine(oe _ false D m e v a.den (H.out.2.2.1.belw d) Q.out (by omega)).mono ?_);rintro E w4⟨rfl,f⟩;replace d:=d.trans (f.mono d.size);replace i:=i.b f;replace j:=j.b f;clear f y;cases v
  ·go_wp2
   go_ret;exact⟨rfl,d⟩
  have R:=(H.out.num_z P.out).belw d;have K:=(H.out.den_z Q.out).belw d;have y:=And.intro i.v2 j.v2;go_wp2_with fail;(refine(CE _ false A n c _ k R false D m e _ k K (by omega)).mono ?_);rintro E w5⟨U,A9,n9,T,rfl,G,r⟩;replace d:=d.trans (r.mono d.size);clear r y R K i j;go_wp2_with fail;(refine(tW _).mono ?_);rintro E w6⟨b8,A8,n8,Y,rfl,V,l⟩;replace d:=d.trans (l.mono d.size);replace G:=G.belw l;clear l;obtain⟨s,O⟩:=Z9 (dD ((Nat.gcd ((val a.num:Int)).natAbs ((val a.den:Int)).natAbs:Nat)) 1);have N:=Qh O;clear O;go_wp2_with fail;(refine(Bb _ U A9 n9 T _ (k+k) G.iz b8 A8 n8 Y 1 1 V.iz s N.out (by omega)).mono ?_);rintro E w7⟨rfl,F⟩;go_wp2;go_ret;exact cg (tV N.out rfl) (d.trans (F.mono d.size))

theorem ch(w:World)(A:Option Addr)(n c:Nat)(l:List Nat)(h:Wd w A n c l)(k x:Nat)(d:wd l k=x)(b:n<=4398046511104):
 Calls Tryz.prog 256 #[.slice A n c,.int .i64 (k:Nat)] w fun e a=>e=.returned (.int .u64 (x:Nat))/\w=a:=by
 subst d;have:=xA w A n c l h (k:Nat) (by omega) b (.inr rfl);simpa using this


theorem Wd.cut_{w:World}{g o n c:Nat}{l:List Nat}(h:Wd w (some ⟨g,o,none⟩) n c l){j:Nat}(f:j<=n):Wd w (some ⟨g,o,none⟩) j c (l.take j):=by
 have p:=h.2.1;refine⟨Wds.take h.1 j,by rw[vq];omega,Nat.le_trans f h.2.2.1,fun m=>?_⟩;obtain⟨g',b,a,fr,e,hb,k⟩:=h.2.2.2 (by omega);refine⟨g',b,a,fr,e,hb,fun i d=>?_⟩;rw[k i (by omega)];have:wd (l.take j) i=wd l i:=by simp[wd,List.getD,d]
 rw[this]
theorem ld{P:Program}(w:World)(t d e:TypeId)(i:TypeInfo)(b:P.underlying t=some (.slice e))(a:P.info? e=some i)(g:Nat)(A:Option Addr)(c:Nat):
 (Builtin.append_ #[t,t] d #[.slice (some ⟨g,0,none⟩) 0 0,.slice A 0 c]).run P w=.ok (.slice (some ⟨g,0,none⟩) 0 0) w:=by
 cases A<;>simp[Builtin.append_,run_underlying b,sizeOf,typeInfo,a,Builtin.lenOf,Builtin.firstCells,loadCells,loadCellsFrom,storeCells]
theorem fz{P:Program}{w:World}{ops:Array Oper}{rest:List Oper}{o:Oper}{a:Act}{Q:Exit->Act->World->Prop}(d:o.guard=none)(s x:Operand)(t:TypeId)
 (f:o.op=.call { callee:=.builtin .append,args:=#[s,x],argTypes:=#[t,t] })
 (e:TypeId) (i:TypeInfo) (j:P.underlying t=some (.slice e)) (l:P.info? e=some i)
 (g:Nat) (A:Option Addr) (c:Nat) (k:a.eval s=.slice (some ⟨g,0,none⟩) 0 0) (m:a.eval x=.slice A 0 c)
 (h:wpList P ops Q rest (a.put o.dst (.slice (some ⟨g,0,none⟩) 0 0)) w):wpList P ops Q (o::rest) a w:=by
 refine wpList_plain d fun K n=>?_
 have b:=ld (P:=P) w t o.type e i j l g A c;unfold Oper.wp;simp[execOp,f,resolve,invoke,builtin,k,m,b,Result.andThen];exact n _ _ h
theorem fh(w:World)(A:Option Addr)(n c:Nat)(l:List Nat)(h:Wd w A n c l)(X:n<=4398046511104):
 Calls Tryz.prog 221 #[.slice A n c] w (gS w (au (val l))):=by
 have y:=Qh h.2.1;have O:n<=c:=h.2.2.1;obtain⟨P,s,D,F,H⟩:=Gb fe;by_cases r:n=0
 ·subst r
  have HE:=Qh (show au (val l)=[] by rw[lq y.out.symm];exact ax);clear h X;go_in;go_wp2_with (at_builtin;refine fz rfl _ _ _ rfl 58 P Tryz.underlying63 s _ _ _ rfl rfl ?_);go_loop [3] (fun v=>v=.slice (some ⟨w.heap.size,0,none⟩) 0 0) (fun _=>0)
  case atStart=>rfl
  case round =>
   subst hrel;go_wp2;go_ret;refine⟨_,_,_,rfl,?_,(kz _ _).alloc Qr _⟩;rw[HE.out];exact⟨by simp[Wds],rfl,Qr,fun h=>absurd h (by omega)⟩
 obtain⟨g,o,rfl,B⟩:=h.at_ (by omega);clear B;have hp:0<n:=by omega
 have p:=F4 (e:=58) (size:=1) w #[] 0 Qr (by simp[maxLen]) rfl;have d:=(h.keep ((Kp.refl w).alloc (.cells #[] 58))).news (by omega) Qr;have u:(bA (l.take n)).length=n*1:=by rw[dx,vq,<-y.out];omega
 have Q:=Qh p;have R:=Qh d;have t:=Qh u;have J:=Qh h.1;clear p d u h r;go_in;go_wp2_with (at_builtin;refine Gc _ rfl _ _ _ rfl w.heap.size 58 P (.int .u32 0) 1 4 Tryz.underlying63 s D F H rfl (by omega) _ 0 [] rfl Q.out ⟨g,o,none⟩ n c (bA (l.take n)) rfl t.out R.out (gU _) (by omega) (by unfold maxLen;omega) (by omega) (by simp) (w.heap.size+1) (by simp) ?_;intro W cap w1 a f E L);simp only[Nat.zero_add,Gf]at a;have j:=Wd.of_own a (Wds.take J.out n);rw[ms (Nat.le_of_eq y.out.symm)]at j;have q:=((kz w.heap.size w).alloc Qr (.cells #[] 58)).grown f (by simp) (fun b hb=>Nat.le_of_eq (F5 hb));have m:=Qh j;have N:=Qh q;have I:n<=cap:=j.2.2.1;clear a f E j q Q R t;go_loop [3] (fun v=>∃k:Nat,k<=n/\v=.slice (some ⟨W,0,none⟩) k cap/\tP l k) (fun v=>match v with | .slice _ k _=>k|_=>0)
 case atStart=>exact⟨n,Qr,by simp,fun i S=>fV (by rw[<-y.out];exact S)⟩
 case round =>
  obtain⟨k,M,rfl,z⟩:=hrel;by_cases r:k=0
  ·subst r
   have C:=Qh z;clear z;go_wp2;go_ret;refine⟨_,_,_,rfl,?_,N.out⟩;have:=ct J.out (Nat.zero_le _) C.out (.inl rfl);rw[this];exact m.out.cut_ (Nat.zero_le _)
  have ab:0<k:=by omega
  obtain⟨g',o',e,B⟩:=m.out.at_ (by omega);injection e with e;injection e with e1 e2;subst e1 e2;have K:=B (k-1) (by omega);rw[Nat.zero_add]at K;have V:=m.out.lt (k-1);have C:=Qh z;generalize T:wd l (k-1)=x at *;have U:=Qh T;clear B r z T;by_cases G:x=0
  ·subst G
   go_wp2;go_round
   case rel=>exact⟨k-1,by omega,rfl,fun i S=>by
    by_cases he:i=k-1
    ·subst he;exact U.out
    exact C.out i (by omega)⟩
   case measure=>dsimp only;omega
  have Z:((x:Int)==0)=false:=by simp;omega
  have Y:=Qh G;clear G;go_wp2;go_ret;have hd:=ct J.out (by rw[<-y.out];exact M) C.out (.inr (by rw[U.out];exact Y.out));refine⟨_,_,_,rfl,?_,N.out⟩;rw[hd];exact m.out.cut_ M

theorem kx(w:World)(b:Bool)(A:Option Addr)(n c:Nat)(l:List Nat)(h:Wd w A n c l)(t:n<=1099511627776):
 Calls Tryz.prog 213 #[.bool b,.slice A n c] w (jU w (wh (sgn b (val l)))):=by
 rw[xt];go_in;go_wp2_with fail;refine(fh _ A n c l ?_ ?_).mono ?_;(exact h.keep ((Kp.refl _).alloc _));(omega);rintro e f⟨k,a,c1,rfl,d,hb⟩;have q:Below w.heap.size w f:=((kz _ _).alloc Qr _).trans (hb.mono (by simp));have x:Blk f w.heap.size 194 #[.bool false,.slice none 0 0]:=(aj w _ _ rfl).below hb (by simp);have c0:f.cell? ⟨w.heap.size,0,none⟩=some (.bool false):=x.cell 0;have o:f.cell? ⟨w.heap.size,1,none⟩=some (.slice none 0 0):=x.cell 1;have u:=x.f2;have j:=Qh d.2.1;clear hb h;by_cases i:a=0
 ·subst i
  have r:=Qh (lq j.out.symm);have g:=Qh d;clear d;go_wp2;refine zr1 (.agg #[.bool false,.slice none 0 0]) ?_;rw[r.out];exact⟨none,0,0,by simp,Wd.nil_ _,(q.setCell (p:=⟨w.heap.size,0,none⟩) Qr _).setCell (p:=⟨w.heap.size,1,none⟩) Qr _⟩
 have s:((a:Int)==0)=false:=by simp;omega
 have m:0<a:=by omega
 have g:=Qh d;clear d i;go_wp2;refine zr1 (.agg #[.bool b,.slice k a c1]) ?_;refine⟨k,a,c1,?_,g.out.keep (kp2 x.box (by decide) _ _ _ _),(q.setCell (p:=⟨w.heap.size,0,none⟩) Qr _).setCell (p:=⟨w.heap.size,1,none⟩) Qr _⟩;have:decide (0<(au (val l)).length)=true:=by rw[<-j.out];simp[m]
 rw[this];simp
theorem fi(w:World)(A n c l)(h:Wd w A n c l)(I:n<=1099511627776)(A' n' c' l')(g:Wd w A' n' c' l')(F:n'<=1099511627776):
 Calls Tryz.prog 244 #[.slice A n c,.slice A' n' c'] w (av w (.int .i64 (bS (val l) (val l')))):=by
 have G:=Qh h.2.1;have r:=Qh g.2.1;obtain⟨M,t⟩:∃M,M=max n n':=⟨_,rfl⟩;have q:=Qh t;have E:M<=1099511627776:=by omega
 clear t;go_in;go_wp2
 all_goals
  go_loop [5] (fun v=>∃k:Nat,k<=M/\v=.int .i64 ((k:Int)-1)/\Es l l' k) (fun v=>(intOf v+1).toNat)
  case atStart=>exact⟨M,Qr,by have:=q.out;rw[show (M:Int)-1=_ from rfl];congr 1;omega,fun j J=>by rw[fV (by rw[<-G.out];have:=q.out;omega),fV (by rw[<-r.out];have:=q.out;omega)]⟩
  case round =>
   obtain⟨k,H,rfl,o⟩:=hrel;by_cases u:k=0
   ·subst u
    have m:=Qh (show bS (val l) (val l')=0 by unfold bS;rw[nW (fun j=>o j (Nat.zero_le _))];simp);clear o;go_wp2;go_ret;exact cF m.out.symm (kz _ _)
   obtain⟨j,rfl⟩:∃j,k=j+1:=⟨k-1,by omega⟩;obtain⟨x,y,D,B⟩:∃x y,wd l j=x/\wd l' j=y:=⟨_,_,rfl,rfl⟩;have d:=Qh D;have b:=Qh B;have s:=Qh o;have z:(((j+1:Nat):Int)-1)=(j:Int):=by omega
   rw[z];clear D B o u z;rcases Nat.lt_trichotomy x y with a|rfl|a
   ·have p:((x:Int) != (y:Int))=true:=by rw[F6];omega
    have m:=Qh (show bS (val l) (val l')=-1 by unfold bS;rw[kZ (ji h.1 (i:=j) (by rw[d.out,b.out];exact a) (fun i C=>s.out i (by omega)))])
    go_wp2_with (first
     |(go_at_call 256;(with_reducible refine(ch _ A n c l ?_ j x d.out (by omega)).mono ?_);exact h;rintro e f⟨rfl,rfl⟩)
     |(go_at_call 256;(with_reducible refine(ch _ A' n' c' l' ?_ j y b.out (by omega)).mono ?_);exact g;rintro e f⟨rfl,rfl⟩))
    go_ret;exact cF m.out.symm (kz _ _)
   ·go_wp2_with (first
     |(go_at_call 256;(with_reducible refine(ch _ A n c l ?_ j x d.out (by omega)).mono ?_);exact h;rintro e f⟨rfl,rfl⟩)
     |(go_at_call 256;(with_reducible refine(ch _ A' n' c' l' ?_ j x b.out (by omega)).mono ?_);exact g;rintro e f⟨rfl,rfl⟩))
    go_round
    case rel=>exact⟨j,by omega,by go_num,fun i C=>by
     by_cases hij:i=j
     ·subst hij;rw[d.out,b.out]
     exact s.out i (by omega)⟩
    case measure=>simp[intOf]
   have p:((x:Int) != (y:Int))=true:=by rw[F6];omega
   have m:=Qh (show bS (val l) (val l')=1 by
    have:=ji g.1 (i:=j) (by rw[d.out,b.out];exact a) (fun i C=>(s.out i (by omega)).symm)
    unfold bS;rw[kl (by omega),kl (by omega)])
   go_wp2_with (first
    |(go_at_call 256;(with_reducible refine(ch _ A n c l ?_ j x d.out (by omega)).mono ?_);exact h;rintro e f⟨rfl,rfl⟩)
    |(go_at_call 256;(with_reducible refine(ch _ A' n' c' l' ?_ j y b.out (by omega)).mono ?_);exact g;rintro e f⟨rfl,rfl⟩))
   go_ret;exact cF m.out.symm (kz _ _)

theorem sL{L:List Nat}{d i:Nat}(h:i<L.length):wd (L++[d]) i=wd L i:=by
 simp[wd,List.getD,Gq h]
theorem Be{L:List Nat}{d:Nat}:wd (L++[d]) L.length=d:=by simp[wd,List.getD]
theorem pt{L:List Nat}{d k:Nat}(h:L.length=k):Sm (wd (L++[d])) (k+1)=Sm (wd L) k+d*4294967296^k:=by
 subst h;rw[Sm,Be,eZ (fun i a=>sL a)]
theorem mq{L:List Nat}{d:Nat}(h:Wds L)(hd:d<4294967296):Wds (L++[d]):=by
 intro x b;rcases Gu.1 b with a|a
 ·exact h x a
 simp at a;omega
theorem ka(L:List Nat)(d:Nat):bA (L++[d])=bA L++[.int .u32 (d:Nat)]:=by simp[bA]
theorem da{w:World}{base:Nat}{e:TypeId}{size:Nat}{v:Value}{n:Nat}{d:List Value}(h:w.ownsRow base e size v n d):∀b,v.ownBlock=some b->base<=b:=by
 intro b hb;rcases h.2 with⟨rfl,_⟩|⟨g,c,a,rfl,f,_⟩
 ·simp[Value.ownBlock]at hb
 simp[Value.ownBlock]at hb;omega
theorem yk(w:World)(A n c l)(p:Wd w A n c l)(hn:n<=1099511627776)(A' n' c' l')(o:Wd w A' n' c' l')(W:n'<=1099511627776)(Z:n<=n'):
 Calls Tryz.prog 247 #[.slice A n c,.slice A' n' c'] w (gS w (au (val l+val l'))):=by
 have H:=Qh p.2.1;have m:=Qh o.2.1;obtain⟨V,B,C,D,u⟩:=Gb fe;go_in;go_wp2_with fail;go_loopw [5,6,15] (fun X S z wr=>∃(k b:Nat) (L:List Nat),k<=n'+1/\z=.int .i64 (k:Nat)/\S=.int .u64 (b:Nat)/\b<=1/\L.length=k/\xM l l' L k b/\wr.ownsRow w.heap.size 58 1 X k (bA L)/\Below w.heap.size w wr) (fun _ _ z _=>n'+1-(intOf z).toNat)
 case atStart=>exact⟨0,0,[],Nat.zero_le _,rfl,rfl,by omega,rfl,⟨by simp[Wds],by simp[Sm]⟩,⟨rfl,.inl ⟨rfl,rfl⟩⟩,aa _⟩
 case round =>
  obtain⟨k,b,L,hk,rfl,rfl,Y,j,K,d,a⟩:=hrel;have i:=Qh ((Kp.refl w).below a);have s:=Qh K;have h:=Qh j;have r:=Qh d;clear K j d;by_cases hkM:k<n'+1
  ·obtain⟨x,y,v,E⟩:∃x y,wd l k=x/\wd l' k=y:=⟨_,_,rfl,rfl⟩
   have U:x<4294967296:=by rw[<-v];exact p.lt k
   have N:y<4294967296:=by rw[<-E];exact o.lt k
   have M:=Qh v;have G:=Qh E;have O:=a.size;have HD:=Qh (jm (x:=x) (y:=y) s.out.2);clear v E
   go_wp2_with (first
    |(go_at_call 256;(with_reducible refine(ch _ A n c l ?_ k x M.out (by omega)).mono ?_);exact p.keep i.out;rintro e R⟨rfl,rfl⟩)
    |(go_at_call 256;(with_reducible refine(ch _ A' n' c' l' ?_ k y G.out (by omega)).mono ?_);exact o.keep i.out;rintro e R⟨rfl,rfl⟩)
    |(at_builtin;refine Gc _ rfl _ _ _ rfl w.heap.size 58 V (.int .u32 0) 1 4 Tryz.underlying63 B C D u rfl (by omega) _ k (bA L) rfl (r.out.alloc _) ⟨wr.heap.size,0,none⟩ 1 1 [_] rfl rfl (x9 (Ao wr _)) (by simp[Value.oneCell']) (by omega) (by unfold maxLen;omega) (by omega) (by simp;omega) (wr.heap.size+1) (by simp) ?_;intro P cap Q f g T J))
   go_roundw
   case rel =>
    refine⟨k+1,(b+x+y)/4294967296,L++[(b+x+y)%4294967296],by omega,by go_num,by congr 1;omega,by omega,by simp[h.out],⟨mq s.out.1 (Nat.mod_lt _ (by omega)),?_⟩,?_,(a.alloc a.size _).grown g (by simp;omega) (da r.out)⟩
    ·rw[pt h.out,Sm,Sm,M.out,G.out,Nat.pow_succ]
     exact HD.out
    have e:(Value.int .u32 (((x:Int)+y+b)%4294967296))=.int .u32 (((b+x+y)%4294967296:Nat):Int):=by congr 1;omega
    rw[ka,<-e];exact f
   case measure=>simp[intOf];omega
  have t:k=n'+1:=by omega
  have I:val L=val l+val l':=by
   have q:=s.out.2;have h2:=dl p.1;have h3:=dl o.1;rw[bf L (by rw[h.out];exact Qr),bf l (by rw[<-H.out];omega),bf l' (by rw[<-m.out];omega)]at q;have h4:4294967296^l.length<=4294967296^(k-1):=Nat.pow_le_pow_right (by omega) (by rw[<-H.out];omega);have h5:4294967296^l'.length<=4294967296^(k-1):=Nat.pow_le_pow_right (by omega) (by rw[<-m.out];omega);have h6:4294967296^k=4294967296^(k-1)*4294967296:=by rw[<-Nat.pow_succ];congr 1;omega
   rcases (show b=0\/b=1 by omega) with rfl|rfl
   ·omega
   omega
  have HV:=Qh I;obtain⟨P,cap,rfl,_,_⟩:=r.out.form (by omega);clear I t;go_wp2_with fail;refine(fh _ _ k cap L ?_ ?_).mono ?_;(exact Wd.of_own r.out s.out.1);(omega);rintro e Q⟨A1,n1,c1,rfl,q,F⟩;go_wp2;go_ret;rw[HV.out]at q;exact⟨_,_,_,rfl,q,a.trans (F.mono a.size)⟩
theorem yl(w:World)(A n c l)(p:Wd w A n c l)(hn:n<=1099511627776)(A' n' c' l')(o:Wd w A' n' c' l')(W:n'<=1099511627776)(Z:n'<n):
 Calls Tryz.prog 247 #[.slice A n c,.slice A' n' c'] w (gS w (au (val l+val l'))):=by
 have H:=Qh p.2.1;have m:=Qh o.2.1;obtain⟨V,B,C,D,u⟩:=Gb fe;go_in;go_wp2_with fail;go_loopw [5,6,15] (fun X S z wr=>∃(k b:Nat) (L:List Nat),k<=n+1/\z=.int .i64 (k:Nat)/\S=.int .u64 (b:Nat)/\b<=1/\L.length=k/\xM l l' L k b/\wr.ownsRow w.heap.size 58 1 X k (bA L)/\Below w.heap.size w wr) (fun _ _ z _=>n+1-(intOf z).toNat)
 case atStart=>exact⟨0,0,[],Nat.zero_le _,rfl,rfl,by omega,rfl,⟨by simp[Wds],by simp[Sm]⟩,⟨rfl,.inl ⟨rfl,rfl⟩⟩,aa _⟩
 case round =>
  obtain⟨k,b,L,hk,rfl,rfl,Y,j,K,d,a⟩:=hrel;have i:=Qh ((Kp.refl w).below a);have s:=Qh K;have h:=Qh j;have r:=Qh d;clear K j d;by_cases hkM:k<n+1
  ·obtain⟨x,y,v,E⟩:∃x y,wd l k=x/\wd l' k=y:=⟨_,_,rfl,rfl⟩
   have U:x<4294967296:=by rw[<-v];exact p.lt k
   have N:y<4294967296:=by rw[<-E];exact o.lt k
   have M:=Qh v;have G:=Qh E;have O:=a.size;have HD:=Qh (jm (x:=x) (y:=y) s.out.2);clear v E
   go_wp2_with (first
    |(go_at_call 256;(with_reducible refine(ch _ A n c l ?_ k x M.out (by omega)).mono ?_);exact p.keep i.out;rintro e R⟨rfl,rfl⟩)
    |(go_at_call 256;(with_reducible refine(ch _ A' n' c' l' ?_ k y G.out (by omega)).mono ?_);exact o.keep i.out;rintro e R⟨rfl,rfl⟩)
    |(at_builtin;refine Gc _ rfl _ _ _ rfl w.heap.size 58 V (.int .u32 0) 1 4 Tryz.underlying63 B C D u rfl (by omega) _ k (bA L) rfl (r.out.alloc _) ⟨wr.heap.size,0,none⟩ 1 1 [_] rfl rfl (x9 (Ao wr _)) (by simp[Value.oneCell']) (by omega) (by unfold maxLen;omega) (by omega) (by simp;omega) (wr.heap.size+1) (by simp) ?_;intro P cap Q f g T J))
   go_roundw
   case rel =>
    refine⟨k+1,(b+x+y)/4294967296,L++[(b+x+y)%4294967296],by omega,by go_num,by congr 1;omega,by omega,by simp[h.out],⟨mq s.out.1 (Nat.mod_lt _ (by omega)),?_⟩,?_,(a.alloc a.size _).grown g (by simp;omega) (da r.out)⟩
    ·rw[pt h.out,Sm,Sm,M.out,G.out,Nat.pow_succ]
     exact HD.out
    have e:(Value.int .u32 (((x:Int)+y+b)%4294967296))=.int .u32 (((b+x+y)%4294967296:Nat):Int):=by congr 1;omega
    rw[ka,<-e];exact f
   case measure=>simp[intOf];omega
  have t:k=n+1:=by omega
  have I:val L=val l+val l':=by
   have q:=s.out.2;have h2:=dl p.1;have h3:=dl o.1;rw[bf L (by rw[h.out];exact Qr),bf l (by rw[<-H.out];omega),bf l' (by rw[<-m.out];omega)]at q;have h4:4294967296^l.length<=4294967296^(k-1):=Nat.pow_le_pow_right (by omega) (by rw[<-H.out];omega);have h5:4294967296^l'.length<=4294967296^(k-1):=Nat.pow_le_pow_right (by omega) (by rw[<-m.out];omega);have h6:4294967296^k=4294967296^(k-1)*4294967296:=by rw[<-Nat.pow_succ];congr 1;omega
   rcases (show b=0\/b=1 by omega) with rfl|rfl
   ·omega
   omega
  have HV:=Qh I;obtain⟨P,cap,rfl,_,_⟩:=r.out.form (by omega);clear I t;go_wp2_with fail;refine(fh _ _ k cap L ?_ ?_).mono ?_;(exact Wd.of_own r.out s.out.1);(omega);rintro e Q⟨A1,n1,c1,rfl,q,F⟩;go_wp2;go_ret;rw[HV.out]at q;exact⟨_,_,_,rfl,q,a.trans (F.mono a.size)⟩
theorem mr(w:World)(A n c l)(d:Wd w A n c l)(f:n<=1099511627776)(A' n' c' l')(b:Wd w A' n' c' l')(a:n'<=1099511627776):
 Calls Tryz.prog 247 #[.slice A n c,.slice A' n' c'] w (gS w (au (val l+val l'))):=by
 rcases Nat.lt_or_ge n' n with h|h
 ·exact yl w A n c l d f A' n' c' l' b a h
 exact yk w A n c l d f A' n' c' l' b a h

theorem Dg{w:World}{base k:Nat}{v:Value}{L:List Nat}(h:w.ownsRow base 58 1 v k (bA L))(d:L.length=k)(hw:Wds L):∃B cap,v=.slice B k cap/\Wd w B k cap L:=by
 rcases Nat.eq_zero_or_pos k with a|a
 ·have:L=[]:=lq (by rw[d,a])
  subst this a;rcases h.2 with⟨e,_⟩|⟨c,cap,b,e,_⟩
  ·exact⟨none,0,e,Wd.nil_ _⟩
  exact⟨_,cap,e,Wd.of_own (e ▸ h) (by simp[Wds])⟩
 obtain⟨c,cap,e,_,_⟩:=h.form a;exact⟨_,cap,e,Wd.of_own (e ▸ h) hw⟩
theorem og(w:World)(A n c l)(C:Wd w A n c l)(hn:n<=1099511627776)(A' n' c' l')(r:Wd w A' n' c' l')(ab:n'<=n)(K:val l'<=val l):
 Calls Tryz.prog 255 #[.slice A n c,.slice A' n' c'] w (gS w (au (val l-val l'))):=by
 have S:=Qh C.2.1;have H:=Qh r.2.1;have HV:=Qh K;obtain⟨Z,z,D,E,t⟩:=Gb fe;clear K;go_in;go_wp2_with fail;go_loopw [5,6,11] (fun ov V v wr=>∃(k d:Nat) (L:List Nat),k<=n/\v=.int .i64 (k:Nat)/\V=.int .u64 (d:Nat)/\d<=1/\L.length=k/\xO l l' L k d/\wr.ownsRow w.heap.size 58 1 ov k (bA L)/\Below w.heap.size w wr) (fun _ _ v _=>n-(intOf v).toNat)
 case atStart=>exact⟨0,0,[],Nat.zero_le _,rfl,rfl,by omega,rfl,⟨by simp[Wds],by simp[Sm]⟩,⟨rfl,.inl ⟨rfl,rfl⟩⟩,aa _⟩
 case round =>
  obtain⟨k,d,L,hk,rfl,rfl,Y,m,N,f,a⟩:=hrel;have j:=Qh ((Kp.refl w).below a);have o:=Qh N;have b:=Qh m;have F:=Qh f;clear N m f;by_cases hkM:k<n
  ·obtain⟨x,y,u,G⟩:∃x y,wd l k=x/\wd l' k=y:=⟨_,_,rfl,rfl⟩
   have X:x<4294967296:=by rw[<-u];exact C.lt k
   have Q:y<4294967296:=by rw[<-G];exact r.lt k
   have O:=Qh u;have J:=Qh G;have R:=a.size;clear u G
   go_wp2_with (first
    |(go_at_call 256;(with_reducible refine(ch _ A n c l ?_ k x O.out (by omega)).mono ?_);exact C.keep j.out;rintro e U⟨rfl,rfl⟩)
    |(go_at_call 256;(with_reducible refine(ch _ A' n' c' l' ?_ k y J.out (by omega)).mono ?_);exact r.keep j.out;rintro e U⟨rfl,rfl⟩)
    |(at_builtin;refine Gc _ rfl _ _ _ rfl w.heap.size 58 Z (.int .u32 0) 1 4 Tryz.underlying63 z D E t rfl (by omega) _ k (bA L) rfl (F.out.alloc _) ⟨wr.heap.size,0,none⟩ 1 1 [_] rfl rfl (x9 (Ao wr _)) (by simp[Value.oneCell']) (by omega) (by unfold maxLen;omega) (by omega) (by simp;omega) (wr.heap.size+1) (by simp) ?_;intro gx cap T g h W M))
   go_roundw
   case rel =>
    refine⟨k+1,1-(4294967296+x-y-d)/4294967296,L++[(4294967296+x-y-d)%4294967296],by omega,by go_num,by congr 1;omega,by omega,by simp[b.out],⟨mq o.out.1 (Nat.mod_lt _ (by omega)),?_⟩,?_,(a.alloc a.size _).grown h (by simp;omega) (da F.out)⟩
    ·rw[pt b.out,Sm,Sm,O.out,J.out,Nat.pow_succ]
     exact lb o.out.2 (by omega)
    have e:(Value.int .u32 ((4294967296+(x:Int)-y-d)%4294967296))=.int .u32 (((4294967296+x-y-d)%4294967296:Nat):Int):=by congr 1;omega
    rw[ka,<-e];exact g
   case measure=>simp[intOf];omega
  have q:k=n:=by omega
  subst q
  have i:val L=val l-val l':=by
   have p:=o.out.2;have P:=dl o.out.1;have h3:=HV.out;rw[b.out]at P;rw[bf L (by rw[b.out];exact Qr),bf l (by rw[<-S.out];omega),bf l' (by rw[<-H.out];omega)]at p;rcases (show d=0\/d=1 by omega) with rfl|rfl
   ·omega
   omega
  have s:=Qh i;clear i;have hf:=Dg F.out b.out o.out.1;obtain⟨B,cap,rfl,hw⟩:=hf;have HW:=Qh hw;clear hw;go_wp2_with fail;refine(fh _ _ k cap L ?_ ?_).mono ?_;(exact HW.out);(omega);rintro e T⟨A1,n1,c1,rfl,p,I⟩;go_wp2;go_ret;rw[s.out]at p;exact⟨_,_,_,rfl,p,a.trans (I.mono a.size)⟩
theorem dW(w:World)(b:Bool)(A:Option Addr)(n c:Nat)(l:List Nat)(z:Int)(h:Wd w A n c l)(a:n<=1099511627776)(d:sgn b (val l)=z):
 Calls Tryz.prog 213 #[.bool b,.slice A n c] w (jU w (wh z)):=by subst d;exact kx w b A n c l h a
theorem lF(w:World)(A n c l)(d:Wd w A n c l)(f:n<=1099511627776)(A' n' c' l')(b:Wd w A' n' c' l')(a:n'<=1099511627776)(_:aX l)(_:aX l'):
 Calls Tryz.prog 244 #[.slice A n c,.slice A' n' c'] w (av w (.int .i64 (bS (val l) (val l')))):=fi w A n c l d f A' n' c' l' b a
theorem Bf(w:World)(b:Bool)(A n c l)(g:Wd w A n c l)(J:n<=1099511627000):
 Calls Tryz.prog 238 #[.agg #[.bool b,.slice A n c]] w (jU w (wh (-WD.z ⟨b,l⟩))):=by
 have H:=Qh g.2.1;go_in;go_wp2_with fail;have b0:Below w.heap.size w ((w.alloc (.cells #[.bool b,.slice A n c] 194)).alloc (.cells #[.bool false,.slice none 0 0] 194)):=(((kz _ _).alloc Qr _).alloc (by simp) _);generalize a:((w.alloc (.cells #[.bool b,.slice A n c] 194)).alloc (.cells #[.bool false,.slice none 0 0] 194))=W0 at b0⊢;have G:W0.cell? ⟨w.heap.size,0,none⟩=some (.bool b):=by subst a;simp[go_sem]
 have Q:W0.frozen? ⟨w.heap.size,0,none⟩=false:=by subst a;simp[go_sem]
 have L:W0.cell? ⟨w.heap.size,1,none⟩=some (.slice A n c):=by subst a;simp[go_sem]
 have E:W0.frozen? ⟨w.heap.size,1,none⟩=false:=by subst a;simp[go_sem]
 have F:W0.cell? ⟨w.heap.size+1,0,none⟩=some (.bool false):=by subst a;simp[go_sem]
 have u:W0.frozen? ⟨w.heap.size+1,0,none⟩=false:=by subst a;simp[go_sem]
 have B:W0.cell? ⟨w.heap.size+1,1,none⟩=some (.slice none 0 0):=by subst a;simp[go_sem]
 have I:W0.frozen? ⟨w.heap.size+1,1,none⟩=false:=by subst a;simp[go_sem]
 have x0:Box W0 w.heap.size 194:=by subst a;exact(bT _ _ _ (by simp)).alloc _
 have O:Box W0 (w.heap.size+1) 194:=by subst a;exact bT _ _ _ (by simp)
 have p:j7 (w.heap.size+1) (w.heap.size+1+1) 2 W0:=by subst a;exact mg (by simp)
 have f:w.heap.size+1+1<=W0.heap.size:=by subst a;simp
 clear a;have g:=g.belw b0;have C:Below W0.heap.size W0 W0:=aa _;have d:w.heap.size+1<=w.heap.size+1+1:=by omega
 go_region_held3 (fun q=>Sees (w.heap.size+1) W0 q) (first|exact Sees.of (Nat.le_trans d f) (by assumption)|exact Sees.of (Nat.le_trans d f) (af (by assumption) _)|exact(Sees.set (Sees.of (Nat.le_trans d f) (by assumption)) (by simp))|exact(Sees.set (Sees.set (Sees.of (Nat.le_trans d f) (by assumption)) (by simp)) (by simp)))
  (first
   |(go_at_call 222;(with_reducible refine(fX _ b A n c l ?_ ?_).mono ?_);(exact g);(omega);rintro e R⟨rfl,h⟩;replace h:=ag (af (aa _) 1) h;have t:=ag C h;replace g:=g.belw h)
   |(go_at_call 215;(with_reducible refine(cU _ b A n c l ?_ ?_).mono ?_);(exact g);(omega);rintro e U⟨y,N,c1,rfl,k,j⟩;have K:=ag t j;replace g:=g.belw j)
   |(go_at_call 213;(with_reducible refine(dW _ (!WD.s ⟨b,l⟩) y N c1 (WD.m ⟨b,l⟩) (-WD.z ⟨b,l⟩) ?_ ?_ ?_).mono ?_);(exact k);(exact Nat.le_trans (k.m_len (by rw[<-H.out];exact J)) (by decide));(exact(CB _).symm);rintro e S⟨M,P,c2,rfl,r,i⟩;have o:=ag K i;replace g:=g.belw i;replace k:=k.belw i;obtain⟨⟨sc,T⟩,D,sz⟩:=bO.of (by omega) f p o))
 clear d;go_wp2_with fail;refine xD (v:=.agg #[.bool _,.slice M P c2]) (by simp[results,Tryz.results238,go_sem,D];rfl) rfl ?_;have x:=O.below o;refine km ?_ ?_ ?_
 ·rfl
 ·exact r.keep (kp2 x (by decide) _ _ _ _)
 exact((b0.trans (o.mono b0.size)).setCell (by dsimp only;omega) _).setCell (by dsimp only;omega) _
theorem Bh(w:World)(b:Bool)(A n c l)(d:Wd w A n c l)(hn:n<=1099511627000)(u:Bool)(A' n' c' l')(g:Wd w A' n' c' l')(ab:n'<=1099511627000):
 Calls Tryz.prog 242 #[.agg #[.bool b,.slice A n c],.agg #[.bool u,.slice A' n' c']] w (jU w (wh (WD.z ⟨b,l⟩+WD.z ⟨u,l'⟩))):=by
 have HL:=Qh d.2.1;have ac:=Qh g.2.1;go_in;go_wp2_with fail;have b0:Below w.heap.size w (((w.alloc (.cells #[.bool b,.slice A n c] 194)).alloc (.cells #[.bool u,.slice A' n' c'] 194)).alloc (.cells #[.bool false,.slice none 0 0] 194)):=((((kz _ _).alloc Qr _).alloc (by simp) _).alloc (by simp;omega) _);generalize h:(((w.alloc (.cells #[.bool b,.slice A n c] 194)).alloc (.cells #[.bool u,.slice A' n' c'] 194)).alloc (.cells #[.bool false,.slice none 0 0] 194))=W0 at b0⊢;have aZ:W0.cell? ⟨w.heap.size,0,none⟩=some (.bool b):=by subst h;simp[go_sem]
 have ao:W0.frozen? ⟨w.heap.size,0,none⟩=false:=by subst h;simp[go_sem]
 have a1:W0.cell? ⟨w.heap.size,1,none⟩=some (.slice A n c):=by subst h;simp[go_sem]
 have aT:W0.frozen? ⟨w.heap.size,1,none⟩=false:=by subst h;simp[go_sem]
 have al:W0.cell? ⟨w.heap.size+1,0,none⟩=some (.bool u):=by subst h;simp[go_sem]
 have aC:W0.frozen? ⟨w.heap.size+1,0,none⟩=false:=by subst h;simp[go_sem]
 have aF:W0.cell? ⟨w.heap.size+1,1,none⟩=some (.slice A' n' c'):=by subst h;simp[go_sem]
 have an:W0.frozen? ⟨w.heap.size+1,1,none⟩=false:=by subst h;simp[go_sem]
 have a2:W0.cell? ⟨w.heap.size+1+1,0,none⟩=some (.bool false):=by subst h;simp[go_sem]
 have aS:W0.frozen? ⟨w.heap.size+1+1,0,none⟩=false:=by subst h;simp[go_sem]
 have a0:W0.cell? ⟨w.heap.size+1+1,1,none⟩=some (.slice none 0 0):=by subst h;simp[go_sem]
 have ad:W0.frozen? ⟨w.heap.size+1+1,1,none⟩=false:=by subst h;simp[go_sem]
 have x0:Box W0 w.heap.size 194:=by subst h;exact((bT _ _ _ (by simp)).alloc _).alloc _
 have x1:Box W0 (w.heap.size+1) 194:=by subst h;exact(bT _ _ _ (by simp)).alloc _
 have x2:Box W0 (w.heap.size+1+1) 194:=by subst h;exact bT _ _ _ (by simp)
 have p:j7 (w.heap.size+1+1) (w.heap.size+1+1+1) 2 W0:=by subst h;exact mg (by simp)
 have o:w.heap.size+1+1+1<=W0.heap.size:=by subst h;simp
 clear h;have d:=d.belw b0;have g:=g.belw b0;have r0:Below W0.heap.size W0 W0:=aa _
 go_region_held3 (fun w'=>bO (w.heap.size+1+1) (w.heap.size+1+1+1) 2 W0 w') (first|exact bO.of (by omega) o p (by assumption)|exact bO.of (by omega) o p (af (by assumption) _))
  (first
   |(go_at_call 215;(with_reducible refine(cU _ b A n c l ?_ ?_).mono ?_);(exact d);(omega);rintro e w1⟨W,R,c1,rfl,f,I⟩;replace I:=ag (af (aa _) 1) I;have r1:=ag r0 I;replace d:=d.belw I;replace g:=g.belw I)
   |(go_at_call 215;(with_reducible refine(cU _ u A' n' c' l' ?_ ?_).mono ?_);(exact g);(omega);rintro e w2⟨A2,O,c2,rfl,j,K⟩;have r2:=ag r1 K;replace d:=d.belw K;replace g:=g.belw K;replace f:=f.belw K))
 obtain⟨⟨sc,y⟩,t,sz⟩:=bO.of (by omega) o p r2;clear sc y t sz;go_wp2_with fail
 go_region_held3 (fun w'=>bO (w.heap.size+1+1) (w.heap.size+1+1+1) 2 W0 w') (first|exact bO.of (by omega) o p (by assumption)|exact bO.of (by omega) o p (af (by assumption) _))
  (first
   |(go_at_call 222;(with_reducible refine(fX _ b A n c l ?_ ?_).mono ?_);(exact d);(omega);rintro e w3⟨rfl,B⟩;replace B:=ag (af (aa _) 1) B;have r3:=ag r2 B;replace d:=d.belw B;replace g:=g.belw B;replace f:=f.belw B;replace j:=j.belw B)
   |(go_at_call 222;(with_reducible refine(fX _ u A' n' c' l' ?_ ?_).mono ?_);(exact g);(omega);rintro e w4⟨rfl,H⟩;have r4:=ag r3 H;replace d:=d.belw H;replace g:=g.belw H;replace f:=f.belw H;replace j:=j.belw H))
 obtain⟨⟨sc,y⟩,t,sz⟩:=bO.of (by omega) o p r4;have E:aX (WD.m ⟨b,l⟩):=WD.canon_m d.1;have C:aX (WD.m ⟨u,l'⟩):=WD.canon_m g.1;have U:R<=1099511627000:=f.m_len (by rw[<-HL.out];exact hn);have Z:O<=1099511627000:=j.m_len (by rw[<-ac.out];exact ab);by_cases Q:WD.s ⟨b,l⟩=WD.s ⟨u,l'⟩
 ·have F:(WD.s ⟨b,l⟩==WD.s ⟨u,l'⟩)=true:=by simp[Q]
  have N:=Qh (C3 Q);clear Q;rw[F];clear F
  go_wp2_with (first
   |(go_at_call 222;(with_reducible refine(fX _ b A n c l ?_ ?_).mono ?_);(exact d);(omega);rintro e w5⟨rfl,q⟩;have P:=ag r4 q;replace d:=d.belw q;replace g:=g.belw q;replace f:=f.belw q;replace j:=j.belw q;(try clear sc y t sz);obtain⟨⟨sc,y⟩,t,sz⟩:=bO.of (by omega) o p P)
   |(go_at_call 247;(with_reducible refine(mr _ W R c1 (WD.m ⟨b,l⟩) ?_ ?_ A2 O c2 (WD.m ⟨u,l'⟩) ?_ ?_).mono ?_);(exact f);(omega);(exact j);(omega);rintro e w6⟨X,V,c3,rfl,D,k⟩;have L:=ag P k;replace d:=d.belw k;replace g:=g.belw k;replace f:=f.belw k;replace j:=j.belw k;(try clear sc y t sz);obtain⟨⟨sc,y⟩,t,sz⟩:=bO.of (by omega) o p L)
   |(go_at_call 213;(with_reducible refine(kx _ (WD.s ⟨b,l⟩) X V c3 (au (val (WD.m ⟨b,l⟩)+val (WD.m ⟨u,l'⟩))) ?_ ?_).mono ?_);(exact D);(rw[D.2.1];exact xH f j U Z (by decide));rintro e w7⟨Y,n4,c4,rfl,M,i⟩;have J:=ag L i;replace d:=d.belw i;replace g:=g.belw i;replace f:=f.belw i;replace j:=j.belw i;replace D:=D.belw i;(try clear sc y t sz);obtain⟨⟨sc,y⟩,t,sz⟩:=bO.of (by omega) o p J))
  rw[ai,<-N.out]at M;refine xD (v:=.agg #[.bool _,.slice Y n4 c4]) (by simp[results,Tryz.results242,go_sem,t];rfl) rfl ?_;have x:=x2.below J;refine km ?_ ?_ ?_
  ·rw[N.out,ai]
  ·exact M.keep (kp2 x (by decide) _ _ _ _)
  exact((b0.trans (J.mono b0.size)).setCell (by dsimp only;omega) _).setCell (by dsimp only;omega) _
 have F:(WD.s ⟨b,l⟩==WD.s ⟨u,l'⟩)=false:=by simp[Q]
 rw[F];clear F;by_cases T:val (WD.m ⟨u,l'⟩)<=val (WD.m ⟨b,l⟩)
 ·have hd:decide ((0:Int)<=bS (val (WD.m ⟨b,l⟩)) (val (WD.m ⟨u,l'⟩)))=true:=by simp[tQ,T]
  have N:=Qh (C4 (a:=⟨b,l⟩) (b:=⟨u,l'⟩) Q T);have HV:=Qh T;clear Q T;have G:O<=R:=xG j f C E (HV.out)
  go_wp2_with (first
   |(go_at_call 244;(with_reducible refine(lF _ W R c1 (WD.m ⟨b,l⟩) ?_ ?_ A2 O c2 (WD.m ⟨u,l'⟩) ?_ ?_ E C).mono ?_);(exact f);(omega);(exact j);(omega);rintro e w5⟨rfl,q⟩;have P:=ag r4 q;replace d:=d.belw q;replace g:=g.belw q;replace f:=f.belw q;replace j:=j.belw q;(try clear sc y t sz);obtain⟨⟨sc,y⟩,t,sz⟩:=bO.of (by omega) o p P)
   |(go_at_call 222;(with_reducible refine(fX _ b A n c l ?_ ?_).mono ?_);(exact d);(omega);rintro e w6⟨rfl,k⟩;have L:=ag P k;replace d:=d.belw k;replace g:=g.belw k;replace f:=f.belw k;replace j:=j.belw k;(try clear sc y t sz);obtain⟨⟨sc,y⟩,t,sz⟩:=bO.of (by omega) o p L)
   |(go_at_call 255;(with_reducible refine(og _ W R c1 (WD.m ⟨b,l⟩) ?_ ?_ A2 O c2 (WD.m ⟨u,l'⟩) ?_ ?_ ?_).mono ?_);(exact f);(omega);(exact j);(exact G);(exact HV.out);rintro e w7⟨X,V,c3,rfl,D,i⟩;have J:=ag L i;replace d:=d.belw i;replace g:=g.belw i;replace f:=f.belw i;replace j:=j.belw i;(try clear sc y t sz);obtain⟨⟨sc,y⟩,t,sz⟩:=bO.of (by omega) o p J)
   |(go_at_call 213;(with_reducible refine(kx _ (WD.s ⟨b,l⟩) X V c3 (au (val (WD.m ⟨b,l⟩)-val (WD.m ⟨u,l'⟩))) ?_ ?_).mono ?_);(exact D);(rw[D.2.1];exact sC (Nat.lt_of_le_of_lt (Nat.sub_le _ _) (f.vlt U)) (by decide));rintro e w8⟨Y,n4,c4,rfl,M,r⟩;have S:=ag J r;replace d:=d.belw r;replace g:=g.belw r;replace f:=f.belw r;replace j:=j.belw r;replace D:=D.belw r;(try clear sc y t sz);obtain⟨⟨sc,y⟩,t,sz⟩:=bO.of (by omega) o p S))
  rw[ai,<-N.out]at M;refine xD (v:=.agg #[.bool _,.slice Y n4 c4]) (by simp[results,Tryz.results242,go_sem,t];rfl) rfl ?_;have x:=x2.below S;refine km ?_ ?_ ?_
  ·rw[N.out,ai]
  ·exact M.keep (kp2 x (by decide) _ _ _ _)
  exact((b0.trans (S.mono b0.size)).setCell (by dsimp only;omega) _).setCell (by dsimp only;omega) _
 have hd:decide ((0:Int)<=bS (val (WD.m ⟨b,l⟩)) (val (WD.m ⟨u,l'⟩)))=false:=by simp[tQ];omega
 have N:=Qh (C5 (a:=⟨b,l⟩) (b:=⟨u,l'⟩) Q (by omega));have HV:=Qh T;clear Q T;have G:R<=O:=xG f j E C (Nat.le_of_not_le HV.out)
 go_wp2_with (first
  |(go_at_call 244;(with_reducible refine(lF _ W R c1 (WD.m ⟨b,l⟩) ?_ ?_ A2 O c2 (WD.m ⟨u,l'⟩) ?_ ?_ E C).mono ?_);(exact f);(omega);(exact j);(omega);rintro e w5⟨rfl,q⟩;have P:=ag r4 q;replace d:=d.belw q;replace g:=g.belw q;replace f:=f.belw q;replace j:=j.belw q;(try clear sc y t sz);obtain⟨⟨sc,y⟩,t,sz⟩:=bO.of (by omega) o p P)
  |(go_at_call 222;(with_reducible refine(fX _ u A' n' c' l' ?_ ?_).mono ?_);(exact g);(omega);rintro e w6⟨rfl,k⟩;have L:=ag P k;replace d:=d.belw k;replace g:=g.belw k;replace f:=f.belw k;replace j:=j.belw k;(try clear sc y t sz);obtain⟨⟨sc,y⟩,t,sz⟩:=bO.of (by omega) o p L)
  |(go_at_call 255;(with_reducible refine(og _ A2 O c2 (WD.m ⟨u,l'⟩) ?_ ?_ W R c1 (WD.m ⟨b,l⟩) ?_ ?_ ?_).mono ?_);(exact j);(omega);(exact f);(exact G);(exact Nat.le_of_not_le HV.out);rintro e w7⟨X,V,c3,rfl,D,i⟩;have J:=ag L i;replace d:=d.belw i;replace g:=g.belw i;replace f:=f.belw i;replace j:=j.belw i;(try clear sc y t sz);obtain⟨⟨sc,y⟩,t,sz⟩:=bO.of (by omega) o p J)
  |(go_at_call 213;(with_reducible refine(kx _ (WD.s ⟨u,l'⟩) X V c3 (au (val (WD.m ⟨u,l'⟩)-val (WD.m ⟨b,l⟩))) ?_ ?_).mono ?_);(exact D);(rw[D.2.1];exact sC (Nat.lt_of_le_of_lt (Nat.sub_le _ _) (j.vlt Z)) (by decide));rintro e w8⟨Y,n4,c4,rfl,M,r⟩;have S:=ag J r;replace d:=d.belw r;replace g:=g.belw r;replace f:=f.belw r;replace j:=j.belw r;replace D:=D.belw r;(try clear sc y t sz);obtain⟨⟨sc,y⟩,t,sz⟩:=bO.of (by omega) o p S))
 rw[ai,<-N.out]at M;refine xD (v:=.agg #[.bool _,.slice Y n4 c4]) (by simp[results,Tryz.results242,go_sem,t];rfl) rfl ?_;have x:=x2.below S;refine km ?_ ?_ ?_
 ·rw[N.out,ai]
 ·exact M.keep (kp2 x (by decide) _ _ _ _)
 exact((b0.trans (S.mono b0.size)).setCell (by dsimp only;omega) _).setCell (by dsimp only;omega) _
theorem Dh(w:World)(i:Int)(o:-9223372036854775808<=i)(h:i<9223372036854775808):
 Calls Tryz.prog 216 #[.int .i64 i] w (jU w (wh i)):=by
 obtain⟨v,p⟩:∃v:Nat,v=i.natAbs:=⟨_,rfl⟩;have b:v<18446744073709551616:=by omega
 have a:val [v%4294967296,v/4294967296]=v:=by simp[val];omega
 have q:=Qh a;by_cases c:i<0
 ·have t:IntKind.u64.wrap i=i+18446744073709551616:=by unfold IntKind.wrap;simp[IntKind.bits,IntKind.signed];omega
  have z:IntKind.u64.wrap (-(i+18446744073709551616))=(v:Int):=by unfold IntKind.wrap;simp[IntKind.bits,IntKind.signed];omega
  have u:decide (i<0)=true:=by simp;omega
  have y:IntKind.u32.wrap (v:Int)=((v%4294967296:Nat):Int):=by unfold IntKind.wrap;simp[IntKind.bits,IntKind.signed]
  have r:IntKind.u32.wrap ((v:Int)/4294967296)=((v/4294967296:Nat):Int):=by unfold IntKind.wrap;simp[IntKind.bits,IntKind.signed];omega
  have n:=Qh (show sgn true v=i by simp[sgn];omega);have f:=Qh b;clear p a b c o h;go_in;go_wp2_with (go_at_call 213;refine(dW _ true (some ⟨w.heap.size+1,0,none⟩) 2 2 [v%4294967296,v/4294967296] i ?_ ?_ ?_).mono ?_;(exact kw (w.alloc _) _ (by simp) _ _ v (by simp) (by simp) f.out);(omega);(rw[q.out];exact n.out);rintro e j⟨l,m,c1,rfl,h,hb⟩;obtain⟨k,s⟩:=dU hb);have d:j.cell? ⟨w.heap.size,0,none⟩=some (.bool false):=(k w.heap.size 0 (by simp;omega)).trans (by simp[go_sem]);have g:j.cell? ⟨w.heap.size,1,none⟩=some (.slice none 0 0):=(k w.heap.size 1 (by simp;omega)).trans (by simp[go_sem]);refine xD (v:=.agg #[.bool _,.slice l m c1]) (by simp[results,Tryz.results216,go_sem,d,g];rfl) rfl ?_;have x:=((bT w #[.bool false,.slice none 0 0] 194 rfl).alloc _).below hb;refine km ?_ ?_ ?_
  ·rfl
  ·exact h.keep (kp2 x (by decide) _ _ _ _)
  exact((((((kz _ _).alloc Qr _).alloc (by simp) _).trans (hb.mono (by simp;omega)))).setCell (by dsimp only;omega) _).setCell (by dsimp only;omega) _
 have t:IntKind.u64.wrap i=(v:Int):=by unfold IntKind.wrap;simp[IntKind.bits,IntKind.signed];omega
 have u:decide (i<0)=false:=by simp;omega
 have y:IntKind.u32.wrap (v:Int)=((v%4294967296:Nat):Int):=by unfold IntKind.wrap;simp[IntKind.bits,IntKind.signed]
 have r:IntKind.u32.wrap ((v:Int)/4294967296)=((v/4294967296:Nat):Int):=by unfold IntKind.wrap;simp[IntKind.bits,IntKind.signed];omega
 have n:=Qh (show sgn false v=i by simp[sgn];omega);have f:=Qh b;clear p a b c o h;go_in;go_wp2_with (go_at_call 213;refine(dW _ false (some ⟨w.heap.size+1,0,none⟩) 2 2 [v%4294967296,v/4294967296] i ?_ ?_ ?_).mono ?_;(exact kw (w.alloc _) _ (by simp) _ _ v (by simp) (by simp) f.out);(omega);(rw[q.out];exact n.out);rintro e j⟨l,m,c1,rfl,h,hb⟩;obtain⟨k,s⟩:=dU hb);have d:j.cell? ⟨w.heap.size,0,none⟩=some (.bool false):=(k w.heap.size 0 (by simp;omega)).trans (by simp[go_sem]);have g:j.cell? ⟨w.heap.size,1,none⟩=some (.slice none 0 0):=(k w.heap.size 1 (by simp;omega)).trans (by simp[go_sem]);refine xD (v:=.agg #[.bool _,.slice l m c1]) (by simp[results,Tryz.results216,go_sem,d,g];rfl) rfl ?_;have x:=((bT w #[.bool false,.slice none 0 0] 194 rfl).alloc _).below hb;refine km ?_ ?_ ?_
 ·rfl
 ·exact h.keep (kp2 x (by decide) _ _ _ _)
 exact((((((kz _ _).alloc Qr _).alloc (by simp) _).trans (hb.mono (by simp;omega)))).setCell (by dsimp only;omega) _).setCell (by dsimp only;omega) _
theorem qO(w:World)(b:Bool)(A n c l)(g:Wd w A n c l)(D:n<=1099511627000):
 Calls Tryz.prog 211 #[.agg #[.bool b,.slice A n c]] w (av w (.int .i64 (WD.z ⟨b,l⟩).sign)):=by
 have h:=WD.z_eq ⟨b,l⟩;have a:aX (WD.m ⟨b,l⟩):=WD.canon_m g.1;by_cases f:WD.m ⟨b,l⟩=[]
 ·have t:=Qh (show (WD.z ⟨b,l⟩).sign=0 by rw[h,f];cases WD.s ⟨b,l⟩<;>rfl)
  have k:=Qh f;clear h f a;go_in;go_wp2_with fail;refine(cU _ b A n c l ?_ ?_).mono ?_;(exact g.keep ((Kp.refl _).alloc _));(omega);rintro e j⟨u,i,c1,rfl,o,hb⟩;have d:i=0:=by rw[o.2.1,k.out];rfl
  subst d;go_wp2;go_ret;exact cF t.out.symm (((kz _ _).alloc Qr _).trans (hb.mono (by simp)))
 obtain⟨s,p⟩:=Z9 (WD.s ⟨b,l⟩);have B:val (WD.m ⟨b,l⟩)≠0:=fun e=>f ((dN a).1 e)
 have t:=Qh (show (WD.z ⟨b,l⟩).sign=if s then -1 else 1 by
  rw[h,p];cases s
  ·simp only[sgn];exact FX (by simp;omega)
  simp only[sgn];exact F7 (by simp;omega))
 have k:=Qh f;have v:=Qh p;clear h f a p B;go_in;go_wp2_with fail;refine(cU _ b A n c l ?_ ?_).mono ?_;(exact g.keep ((Kp.refl _).alloc _));(omega);rintro e j⟨u,i,c1,rfl,o,hb⟩;have d:i≠0:=fun e=>k.out (lq (by rw[<-o.2.1,e]))
 have C:((i:Int)==0)=false:=by simp;omega
 have q:Below w.heap.size w j:=((kz _ _).alloc Qr _).trans (hb.mono (by simp));have x:Blk j w.heap.size 194 #[.bool b,.slice A n c]:=(aj w _ _ rfl).below hb (by simp);have y:=x.c2;clear hb d;go_wp2_with fail;refine(fX _ b A n c l ?_ ?_).mono ?_;(exact g.belw q);(omega);rintro e E⟨rfl,r⟩;rw[v.out];cases s
 all_goals
  go_wp2;go_ret;exact cF t.out.symm (q.trans (r.mono q.size))
theorem ym(x y:Int):(x+-y).sign=dD x y:=by
 unfold dD;rcases GA x y with h|h|h
 ·rw[kZ h];exact F7 (by omega)
 ·subst h;simp[show x+-x=0 by omega]
 rw[kl (by omega),kl (by omega)];exact FX (by omega)
section
variable (w:World) (b A n c z k) (h:IZ w b A n c z k) (b' A' n' c' z' k') (h':IZ w b' A' n' c' z' k')
include h
theorem lQ(d:k<=1000000000):Calls Tryz.prog 238 #[.agg #[.bool b,.slice A n c]] w (j8 w (-z) k):=by
 have g:=h.lt;obtain⟨l,a,rfl,f⟩:=h;exact(Bf w b A n c l a (by omega)).mono fun _ _ r=>r.i (by omega)
theorem mt(d:k<=1000000000):Calls Tryz.prog 211 #[.agg #[.bool b,.slice A n c]] w (av w (.int .i64 z.sign)):=by
 obtain⟨l,a,rfl,f⟩:=h;exact qO w b A n c l a (by omega)
include h'
theorem tX(o:k+k'<=1000000000):Calls Tryz.prog 242 #[.agg #[.bool b,.slice A n c],.agg #[.bool b',.slice A' n' c']] w (j8 w (z+z') (k+k'+1)):=by
 have m:=h.mono (Nat.le_add_right k k') |>.lt
 have a:=h'.mono (Nat.le_add_left k' k) |>.lt
 obtain⟨l,g,rfl,p⟩:=h;obtain⟨f,d,rfl,j⟩:=h';exact(Bh w b A n c l g (by omega) b' A' n' c' f d (by omega)).mono fun _ _ r=>r.i (jX m a)
end
theorem Di(w:World)(i:Int)(k:Nat)(b:-9223372036854775808<=i)(a:i<9223372036854775808)(c:i.natAbs<4294967296^k):Calls Tryz.prog 216 #[.int .i64 i] w (j8 w i k) :=
 (Dh w i b a).mono fun _ _ r=>r.i c
theorem tY(w:World)(i:Int)(b:-4294967296<i)(a:i<4294967296):Calls Tryz.prog 216 #[.int .i64 i] w (j8 w i 1):=Di w i 1 (by omega) (by omega) (by omega)
theorem Bi(w:World)(b A n c z k)(h:IZ w b A n c z k)(b' A' n' c' z' k')(q:IZ w b' A' n' c' z' k')(T:k+k'<=1000000000):
 Calls Tryz.prog 212 #[.agg #[.bool b,.slice A n c],.agg #[.bool b',.slice A' n' c']] w (j8 w (z+-z') (k+k'+1)):=by
 go_in;go_wp2_with fail;have p1:=((((Kp.refl w).alloc (.cells #[.bool b,.slice A n c] 194)).alloc (.cells #[.bool b',.slice A' n' c'] 194)).alloc (.cells #[.bool false,.slice none 0 0] 194));have p:=((((aa w).alloc (by first|omega|(simp<;>omega)) (.cells #[.bool b,.slice A n c] 194)).alloc (by first|omega|(simp<;>omega)) (.cells #[.bool b',.slice A' n' c'] 194)).alloc (by first|omega|(simp<;>omega)) (.cells #[.bool false,.slice none 0 0] 194));have m:Blk (((w.alloc (.cells #[.bool b,.slice A n c] 194)).alloc (.cells #[.bool b',.slice A' n' c'] 194)).alloc (.cells #[.bool false,.slice none 0 0] 194)) w.heap.size 194 #[.bool b,.slice A n c]:=(((aj _ _ _ (by simp)).alloc (.cells #[.bool b',.slice A' n' c'] 194)).alloc (.cells #[.bool false,.slice none 0 0] 194));have j:Blk (((w.alloc (.cells #[.bool b,.slice A n c] 194)).alloc (.cells #[.bool b',.slice A' n' c'] 194)).alloc (.cells #[.bool false,.slice none 0 0] 194)) (w.heap.size+1) 194 #[.bool b',.slice A' n' c']:=((aj _ _ _ (by simp)).alloc (.cells #[.bool false,.slice none 0 0] 194));have a:Blk (((w.alloc (.cells #[.bool b,.slice A n c] 194)).alloc (.cells #[.bool b',.slice A' n' c'] 194)).alloc (.cells #[.bool false,.slice none 0 0] 194)) (w.heap.size+1+1) 194 #[.bool false,.slice none 0 0]:=(aj _ _ _ (by simp));have K:w.heap.size+3<=(((w.alloc (.cells #[.bool b,.slice A n c] 194)).alloc (.cells #[.bool b',.slice A' n' c'] 194)).alloc (.cells #[.bool false,.slice none 0 0] 194)).heap.size:=by simp
 generalize I:(((w.alloc (.cells #[.bool b,.slice A n c] 194)).alloc (.cells #[.bool b',.slice A' n' c'] 194)).alloc (.cells #[.bool false,.slice none 0 0] 194))=w1 at p1 p K m j a⊢;clear I;replace h:=h.keep p1;replace q:=q.keep p1;have D:=m.c2;have E:=fd m.lt;have x:=j.c2;have B:=kn j.lt;obtain⟨f,d⟩:=a.c2;obtain⟨i,g⟩:=a.f2;have C:=uZ a.lt;have t:¬w.heap.size=w.heap.size+1+1:=by omega
 have s:¬w.heap.size=w.heap.size+2:=by omega
 have r:¬w.heap.size+1=w.heap.size+1+1:=by omega
 have u:¬w.heap.size=w.heap.size+1:=by omega
 go_region_held3 (fun M=>SeesX w1.heap.size (w.heap.size+1+1) w1 M) (first|with_reducible exact SeesX.of Qr (by assumption)|with_reducible exact SeesX.of Qr (aa _).drew|with_reducible exact(SeesX.set (SeesX.set (SeesX.of Qr (by assumption))))|with_reducible exact(SeesX.set (SeesX.of Qr (by assumption)))|exact SeesX.of Qr (af (aa _) 1)|exact SeesX.of Qr (af (by assumption) _))
  (first
   |(go_at_call 238;(with_reducible refine(lQ _ b' A' n' c' (z') (k') ?_ ?_).mono ?_);(exact q);(omega);rintro e R⟨O,Q,S,c2,rfl,H,l⟩;replace l:=ag (af (aa _) 1) l;have q2:Below w1.heap.size w1 R:=ag (aa w1) l;replace h:=h.belw l;replace q:=q.belw l)
   |(go_at_call 242;(with_reducible refine(tX _ b A n c (z) (k) ?_ O Q S c2 (-(z')) ((k')) ?_ ?_).mono ?_);(exact h);(exact H.iz);(omega);rintro e L⟨y,G,F,c3,rfl,P,o⟩;have q3:Below w1.heap.size w1 L:=ag q2 o;replace h:=h.belw o;replace q:=q.belw o;replace H:=H.belw o;have a:=a.b q3;obtain⟨f,d⟩:=a.c2;obtain⟨i,g⟩:=a.f2))
 have J:=p.trans (q3.mono p.size);clear D E x B f i d g C;replace m:=m.b q3;replace j:=j.b q3;have N:=q3.size;obtain⟨f,d⟩:=a.c2;obtain⟨i,g⟩:=a.f2;go_wp2_with fail;refine zr1 (.agg #[.bool y,.slice G F c3]) ?_;exact⟨y,G,F,c3,rfl,P.keep (((Kp.refl L).sb (w.heap.size+1+1) 0 a.box (by decide) (.bool y)).sb (w.heap.size+1+1) 1 (a.box.set ⟨w.heap.size+1+1,0,none⟩ (.bool y)) (by decide) (.slice G F c3)),((J.sc (w.heap.size+1+1) 0 (by omega) (.bool y)).sc (w.heap.size+1+1) 1 (by omega) (.slice G F c3))⟩
theorem tZ(w:World)(b A n c z k)(h:IZ w b A n c z k)(b' A' n' c' z' k')(i:IZ w b' A' n' c' z' k')(u:k+k'<=999999999):
 Calls Tryz.prog 171 #[.agg #[.bool b,.slice A n c],.agg #[.bool b',.slice A' n' c']] w (av w (.int .i64 (dD z z'))):=by
 go_in;go_wp2_with fail;refine(Bi _ b A n c (z) (k) ?_ b' A' n' c' (z') (k') ?_ ?_).mono ?_;(exact(h.belw (((kz _ _).alloc Qr _).alloc (by simp) _)));(exact(i.belw (((kz _ _).alloc Qr _).alloc (by simp) _)));(omega);rintro e o⟨p,q,r,c1,rfl,l,a⟩;have q1:=a.q2;replace h:=h.belw q1;replace i:=i.belw q1;have j:Blk o w.heap.size 194 #[.bool b,.slice A n c]:=((aj _ _ _ (by simp)).alloc _).below a (by simp<;>omega);have f:=(aj _ _ _ (g:=w.heap.size+1) (by simp)).below a (by simp);have d:=(aa w).trans (q1.mono (aa w).size);have t:=a.l2;clear q1;go_wp2_with fail;refine(mt _ p q r c1 ((z)+-(z')) ((k)+(k')+1) ?_ ?_).mono ?_;(exact l.iz);(omega);rintro e v⟨rfl,q2⟩;replace h:=h.belw q2;replace i:=i.belw q2;replace l:=l.belw q2;replace j:=j.b q2;replace f:=f.b q2;have m:=d.trans (q2.mono d.size);have s:=q2.size;clear q2 d;go_wp2;go_ret;exact cF (ym _ _) m

def OwS(w:World)(B g n cap:Nat)(l:List Nat):Prop:=w.ownsRow B 58 1 (.slice (some ⟨g,0,none⟩) n cap) n (bA l)/\Wds l
theorem OwS.len{w:World}{B g n cap:Nat}{l:List Nat}(h:OwS w B g n cap l):n=l.length:=by have:=h.1.1;rw[dx]at this;omega
theorem OwS.base{w:World}{B g n cap:Nat}{l:List Nat}(h:OwS w B g n cap l):B<=g:=da h.1 g rfl
theorem OwS.toWd{w:World}{B g n cap:Nat}{l:List Nat}(h:OwS w B g n cap l):Wd w (some ⟨g,0,none⟩) n cap l:=Wd.of_own h.1 h.2
theorem OwS.cell{w:World}{B g n cap:Nat}{l:List Nat}(h:OwS w B g n cap l)(i:Nat)(a:i<n):w.cell? ⟨g,i,none⟩=some (.int .u32 (wd l i:Nat)):=by
 rw[h.1.cellAt i (by omega)];exact la (by rw[<-h.len];exact a)
theorem OwS.frozen{w:World}{B g n cap:Nat}{l:List Nat}(h:OwS w B g n cap l)(i:Nat):w.frozen? ⟨g,i,none⟩=false:=h.1.frozenAt i
theorem OwS.lt{w:World}{B g n cap:Nat}{l:List Nat}(h:OwS w B g n cap l):g<w.heap.size:=by
 rcases h.1.2 with⟨e,_⟩|⟨g',c,a,e,_,b,_⟩
 ·cases e
 injection e with e;injection e with e;injection e with e;subst e;exact Gi b
theorem OwS.cap{w:World}{B g n cap:Nat}{l:List Nat}(h:OwS w B g n cap l):n<=cap:=h.toWd.2.2.1
theorem OwS.cut{w:World}{B g n cap:Nat}{l:List Nat}(h:OwS w B g n cap l){k:Nat}(j:k<=n):OwS w B g k cap (l.take k):=by
 have m:=h.len;refine⟨⟨by rw[dx,vq];omega,?_⟩,Wds.take h.2 k⟩;rcases h.1.2 with⟨e,_⟩|⟨g',i,a,e,hb,c,o,f,d,b⟩
 ·cases e
 injection e with e1 _ e2;injection e1 with e1;injection e1 with e1;subst e1 e2;refine .inr ⟨g,cap,a,rfl,hb,c,by omega,f,d,?_⟩;have:bA (l.take k)=(bA l).take k:=by simp[bA,List.map_take]
 rw[this,<-b,List.take_take];congr 1;omega
theorem vo(l:List Nat)(i x:Nat):(bA l).set i (.int .u32 (x:Nat))=bA (l.set i x):=by simp[bA,List.map_set]
theorem OwS.set{w:World}{B g n cap:Nat}{l:List Nat}(h:OwS w B g n cap l)(i:Nat){x:Nat}(b:x<4294967296){z:Int}(a:z=x):OwS (w.setCell ⟨g,i,none⟩ (.int .u32 z)) B g n cap (l.set i x):=by
 subst a;refine⟨?_,wds_set h.2 i b⟩;rw[<-vo];exact(h.1.stored i _).1
def iP(g:Nat)(w w':World):Prop:=Below g w w'/\w'.heap.size=w.heap.size/\∀b,b≠g->w'.heap[b]?=w.heap[b]?
theorem iP.refl(g:Nat)(w:World):iP g w w:=⟨kz _ _,rfl,fun _ _=>rfl⟩
theorem iP.set{g:Nat}{w a:World}(h:iP g w a)(i:Nat)(u:Value):iP g w (a.setCell ⟨g,i,none⟩ u) :=
 ⟨h.1.setCell (p:=⟨g,i,none⟩) Qr u,by rw[<-h.2.1];simp[World.setCell],fun b hb=>(so a ⟨g,i,none⟩ u b hb).trans (h.2.2 b hb)⟩
theorem iP.own{g:Nat}{w c:World}(h:iP g w c){B g' n cap:Nat}{l:List Nat}(k:OwS w B g' n cap l)(f:g'≠g):OwS c B g' n cap l:=by
 refine⟨⟨k.1.1,?_⟩,k.2⟩;rcases k.1.2 with⟨e,_⟩|⟨j,d,a,e,hb,b,r⟩
 ·cases e
 have i:=e;injection e with e1 _ e2;injection e1 with e1;injection e1 with e1;subst e1;exact .inr ⟨g',d,a,i,hb,(h.2.2 _ f).trans b,r⟩
def FD(w:World)(l:List Nat)(e:Ending)(w':World):Prop:=∃g k cap,e=.returned (.slice (some ⟨g,0,none⟩) k cap)/\OwS w' w.heap.size g k cap l/\Below w.heap.size w w'
theorem ky(w:World)(A:Option Addr)(n c:Nat)(l:List Nat)(h:Wd w A n c l)(Z:n<=4398046511104):
 Calls Tryz.prog 221 #[.slice A n c] w (FD w (au (val l))):=by
 have q:=Qh h.2.1;have P:n<=c:=h.2.2.1;obtain⟨Q,s,F,H,J⟩:=Gb fe;by_cases r:n=0
 ·subst r
  have HE:=Qh (show au (val l)=[] by rw[lq q.out.symm];exact ax);clear h Z;go_in;go_wp2_with (at_builtin;refine fz rfl _ _ _ rfl 58 Q Tryz.underlying63 s _ _ _ rfl rfl ?_);go_loop [3] (fun v=>v=.slice (some ⟨w.heap.size,0,none⟩) 0 0) (fun _=>0)
  case atStart=>rfl
  case round =>
   subst hrel;go_wp2;go_ret;refine⟨_,_,_,rfl,?_,(kz _ _).alloc Qr _⟩;rw[HE.out];exact⟨F4 (e:=58) (size:=1) w #[] 0 Qr (by simp[maxLen]) rfl,by simp[Wds]⟩
 obtain⟨g,o,rfl,D⟩:=h.at_ (by omega);clear D;have hp:0<n:=by omega
 have m:=F4 (e:=58) (size:=1) w #[] 0 Qr (by simp[maxLen]) rfl;have d:=(h.keep ((Kp.refl w).alloc (.cells #[] 58))).news (by omega) Qr;have u:(bA (l.take n)).length=n*1:=by rw[dx,vq,<-q.out];omega
 have R:=Qh m;have S:=Qh d;have t:=Qh u;have C:=Qh h.1;clear m d u h r;go_in;go_wp2_with (at_builtin;refine Gc _ rfl _ _ _ rfl w.heap.size 58 Q (.int .u32 0) 1 4 Tryz.underlying63 s F H J rfl (by omega) _ 0 [] rfl R.out ⟨g,o,none⟩ n c (bA (l.take n)) rfl t.out S.out (gU _) (by omega) (by unfold maxLen;omega) (by omega) (by simp) (w.heap.size+1) (by simp) ?_;intro T cap X a f G M);simp only[Nat.zero_add,Gf]at a;have j:=Wd.of_own a (Wds.take C.out n);rw[ms (Nat.le_of_eq q.out.symm)]at j;have p:=((kz w.heap.size w).alloc Qr (.cells #[] 58)).grown f (by simp) (fun b hb=>Nat.le_of_eq (F5 hb));have y:=Qh j;rw[ms (Nat.le_of_eq q.out.symm)]at a;have z:=Qh (show OwS X w.heap.size T n cap l from⟨a,C.out⟩);have O:=Qh p;have K:n<=cap:=j.2.2.1;clear a f G j p R S t;go_loop [3] (fun v=>∃k:Nat,k<=n/\v=.slice (some ⟨T,0,none⟩) k cap/\tP l k) (fun v=>match v with | .slice _ k _=>k|_=>0)
 case atStart=>exact⟨n,Qr,by simp,fun i U=>fV (by rw[<-q.out];exact U)⟩
 case round =>
  obtain⟨k,N,rfl,B⟩:=hrel;by_cases r:k=0
  ·subst r
   have E:=Qh B;clear B;go_wp2;go_ret;refine⟨_,_,_,rfl,?_,O.out⟩;have:=ct C.out (Nat.zero_le _) E.out (.inl rfl);rw[this];exact z.out.cut (Nat.zero_le _)
  have ac:0<k:=by omega
  obtain⟨g',o',e,D⟩:=y.out.at_ (by omega);injection e with e;injection e with e1 e2;subst e1 e2;have L:=D (k-1) (by omega);rw[Nat.zero_add]at L;have Y:=y.out.lt (k-1);have E:=Qh B;generalize V:wd l (k-1)=x at *;have W:=Qh V;clear D r B V;by_cases I:x=0
  ·subst I
   go_wp2;go_round
   case rel=>exact⟨k-1,by omega,rfl,fun i U=>by
    by_cases he:i=k-1
    ·subst he;exact W.out
    exact E.out i (by omega)⟩
   case measure=>dsimp only;omega
  have ab:((x:Int)==0)=false:=by simp;omega
  have HZ:=Qh I;clear I;go_wp2;go_ret;have hd:=ct C.out (by rw[<-q.out];exact N) E.out (.inr (by rw[W.out];exact HZ.out));refine⟨_,_,_,rfl,?_,O.out⟩;rw[hd];exact z.out.cut N
def FE(w:World)(B g cap:Nat)(l:List Nat)(e:Ending)(w':World):Prop:=∃k,e=.returned (.slice (some ⟨g,0,none⟩) k cap)/\OwS w' B g k cap l/\w=w'
theorem kA(w:World)(B g n cap:Nat)(l:List Nat)(h:OwS w B g n cap l)(A:n<=4398046511104):
 Calls Tryz.prog 246 #[.slice (some ⟨g,0,none⟩) n cap] w (FE w B g cap (au (val l))):=by
 have m:=h.cap;have o:=Qh h.len;have a:=Qh h;clear h;go_in;go_wp2_with fail;go_loop [0] (fun v=>∃k:Nat,k<=n/\v=.slice (some ⟨g,0,none⟩) k cap/\tP l k) (fun v=>match v with | .slice _ k _=>k|_=>0)
 case atStart=>exact⟨n,Qr,rfl,fun i p=>fV (by rw[<-o.out];exact p)⟩
 case round =>
  obtain⟨k,j,rfl,b⟩:=hrel;by_cases f:k=0
  ·subst f
   have c:=Qh b;clear b;go_wp2;go_ret;refine⟨_,rfl,?_,rfl⟩;have:=ct a.out.2 (Nat.zero_le _) c.out (.inl rfl);rw[this];exact a.out.cut (Nat.zero_le _)
  have z:0<k:=by omega
  have u:=a.out.cell (k-1) (by omega);have s:=cf a.out.2 (k-1);have c:=Qh b;generalize q:wd l (k-1)=x at *;have r:=Qh q;clear f b q;by_cases d:x=0
  ·subst d
   go_wp2;go_round
   case rel=>exact⟨k-1,by omega,rfl,fun i p=>by
    by_cases he:i=k-1
    ·subst he;exact r.out
    exact c.out i (by omega)⟩
   case measure=>dsimp only;omega
  have y:((x:Int)==0)=false:=by simp;omega
  have t:=Qh d;clear d;go_wp2;go_ret;have hd:=ct a.out.2 (by rw[<-o.out];exact j) c.out (.inr (by rw[r.out];exact t.out));refine⟨_,rfl,?_,rfl⟩;rw[hd];exact a.out.cut j

theorem yn{x y:Nat}(c:x<4294967296):(x/2 ||| y*2147483648)%4294967296=x/2+(y%2)*2147483648:=by
 have b:x/2<2^31:=by omega
 have a:y*2147483648 ||| x/2=y*2147483648+x/2:=by
  have:=Nat.shiftLeft_add_eq_or_of_lt b y;rw[Nat.shiftLeft_eq]at this;exact this.symm
 rw[Nat.or_comm,a];omega
def gC(l L:List Nat)(j:Nat):Prop:=Wds L/\L.length=l.length/\(∀i,j<=i->wd L i=wd l i)/\2*Sm (wd L) j+wd l 0%2=Sm (wd l) j+wd l j%2*4294967296^j
theorem gC.start{l:List Nat}(h:Wds l):gC l l 0:=⟨h,rfl,fun _ _=>rfl,by simp[Sm]⟩
theorem gC.step{l L:List Nat}{j:Nat}(h:gC l L j)(g:j<l.length)(c:Wds l):gC l (L.set j (wd l j/2+(wd l (j+1)%2)*2147483648)) (j+1):=by
 obtain⟨d,b,f,k⟩:=h;have n:=cf c j;refine⟨wds_set d j (by omega),by rw[xv];exact b,fun i m=>?_,?_⟩
 ·rw[cq,kl (by omega)];exact f i (by omega)
 rw[cI _ _ _ (by omega),Sm];generalize wd l j=x at *;generalize wd l (j+1)=y at *;generalize wd l 0=z at *;rw[Nat.pow_succ]
 have e:2*((x/2+y%2*2147483648)*4294967296^j)+x%2*4294967296^j=x*4294967296^j+y%2*(4294967296^j*4294967296):=by
  have a:x=2*(x/2)+x%2:=by omega
  generalize x/2=p at *;generalize x%2=r at *;subst a;generalize 4294967296^j=P
  grind
 omega
theorem gC.fin{l L:List Nat}(h:gC l L l.length):val L=val l/2:=by
 obtain⟨c,b,d,a⟩:=h;rw[bf L (by omega),bf l Qr,fV Qr]at a;omega
theorem vp{x y:Nat}(d:x<4294967296)(f:y<4294967296){s:Int}(a:bits .or .u64 ((x:Int)/2) ((y:Int)*2147483648)=s):IntKind.u32.wrap s=((x/2+y%2*2147483648:Nat):Int):=by
 have b:(x:Int)/2=((x/2:Nat):Int):=by omega
 have c:(y:Int)*2147483648=((y*2147483648:Nat):Int):=by simp
 rw[b,c,u64_or_nat _ _ (by omega) (by omega)]at a;subst a;rw[IntKind.wrap_u32];have:=yn (y:=y) d;omega
def FF(w:World)(B g cap:Nat)(l:List Nat)(e:Ending)(w':World):Prop:=∃k,e=.returned (.slice (some ⟨g,0,none⟩) k cap)/\OwS w' B g k cap l/\iP g w w'
theorem fH(w:World)(B g n cap:Nat)(l:List Nat)(h:OwS w B g n cap l)(S:n<=1099511627776):
 Calls Tryz.prog 243 #[.slice (some ⟨g,0,none⟩) n cap] w (FF w B g cap (au (val l/2))):=by
 have D:=h.cap;have d:=h.len;have G:=Qh h.len;have v:=Qh h.2;have K:=Qh (gC.start h.2);have I:=Qh h;clear h d;go_in;go_wp2_with fail;go_loopw [6] (fun A wr=>∃(j:Nat) (L:List Nat),j<=n/\A=.int .i64 (j:Nat)/\gC l L j/\OwS wr B g n cap L/\iP g w wr) (fun A _=>n-(intOf A).toNat)
 case atStart=>exact⟨0,l,Nat.zero_le _,rfl,K.out,I.out,iP.refl _ _⟩
 case round =>
  obtain⟨j,L,T,rfl,F,hw,c⟩:=hrel;have p:=Qh F;have a:=Qh hw;have f:=Qh c;clear F hw c;by_cases hlt:j<n
  ·obtain⟨x,y,o,m⟩:∃x y,wd l j=x/\wd l (j+1)=y:=⟨_,_,rfl,rfl⟩
   have t:x<4294967296:=by rw[<-o];exact cf v.out j
   have q:y<4294967296:=by rw[<-m];exact cf v.out (j+1)
   have Q:=Qh (show wd L j=x by rw[p.out.2.2.1 j Qr,o]);have J:=Qh (show wd L (j+1)=y by rw[p.out.2.2.1 (j+1) (by omega),m]);have i:=Qh (And.intro o m);have P:=a.out.cell j hlt;have N:=a.out.frozen j;obtain⟨s,M⟩:=Z9 (bits .or .u64 ((x:Int)/2) ((y:Int)*2147483648));have z:=vp t q M;have U:=Qh z;have E:((j:Int)+1)=((j+1:Nat):Int):=by omega
   have r:=Qh E;clear o m E
   go_wp2_with (first
    |(go_at_call 256;(with_reducible refine(ch _ (some ⟨g,0,none⟩) n cap L ?_ j x Q.out (by omega)).mono ?_);exact a.out.toWd;rintro e H⟨rfl,rfl⟩)
    |(go_at_call 256;rw[r.out];(with_reducible refine(ch _ (some ⟨g,0,none⟩) n cap L ?_ (j+1) y J.out (by omega)).mono ?_);exact a.out.toWd;rintro e H⟨rfl,rfl⟩))
   go_roundw
   case rel =>
    have b:=p.out.step (by rw[<-G.out];exact hlt) v.out;rw[i.out.1,i.out.2]at b;exact⟨j+1,_,by omega,by go_num,b,a.out.set j (by omega) (by omega),f.out.set j _⟩
   case measure=>simp[intOf];omega
  have u:j=n:=by omega
  subst u;have O:=Qh (show val L=val l/2 from gC.fin (by have:=p.out;rw[G.out]at this;exact this));go_wp2_with fail;refine(kA _ B g j cap L ?_ ?_).mono ?_;(exact a.out);(omega);rintro e R⟨k,rfl,C,rfl⟩;go_wp2;go_ret;rw[O.out]at C;exact⟨k,rfl,C,f.out⟩

theorem iP.wd_{g:Nat}{w d:World}(h:iP g w d){A:Option Addr}{n c:Nat}{l:List Nat}(k:Wd w A n c l)(b:∀ad,A=some ad->ad.block≠g):Wd d A n c l:=by
 refine⟨k.1,k.2.1,k.2.2.1,fun m=>?_⟩;obtain⟨f,i,a,fr,e,hb,j⟩:=k.2.2.2 m;exact⟨f,i,a,fr,e,hb.same (h.2.2 _ (b _ e)),j⟩
def EH(w:World)(B g n cap:Nat)(v:Nat)(e:Ending)(w':World):Prop:=∃L,e=.returned (.tuple #[])/\OwS w' B g n cap L/\val L=v/\iP g w w'
def EI(l l' L:List Nat)(k br:Nat):Prop:=xO l l' L k br/\L.length=l.length/\∀i,k<=i->wd L i=wd l i
theorem iQ(w:World)(B g n cap:Nat)(l:List Nat)(h:OwS w B g n cap l)(hn:n<=1099511627776)(A' n' c' l')(s:Wd w A' n' c' l')(f:∀ad,A'=some ad->ad.block≠g)(S:n'<=n)(H:val l'<=val l):
 Calls Tryz.prog 245 #[.slice (some ⟨g,0,none⟩) n cap,.slice A' n' c'] w (EH w B g n cap (val l-val l')):=by
 have C:=h.cap;have F:=Qh h.len;have z:=Qh s.2.1;have G:=Qh h.2;have V:=Qh H;have T:=Qh h;have o:=Qh s;have u:=Qh f;clear h H s f;go_in;go_wp2_with fail;go_loopw [4,9] (fun M A wr=>∃(k c:Nat) (L:List Nat),k<=n/\A=.int .i64 (k:Nat)/\M=.int .u64 (c:Nat)/\c<=1/\EI l l' L k c/\OwS wr B g n cap L/\iP g w wr) (fun _ A _=>n-(intOf A).toNat)
 case atStart=>exact⟨0,0,l,Nat.zero_le _,rfl,rfl,by omega,⟨⟨G.out,by simp[Sm]⟩,rfl,fun _ _=>rfl⟩,T.out,iP.refl _ _⟩
 case round =>
  obtain⟨k,c,L,Y,rfl,rfl,R,D,hw,j⟩:=hrel;have b:=Qh D;have a:=Qh hw;have d:=Qh j;clear D hw j;by_cases hkM:k<n
  ·obtain⟨x,y,p,v⟩:∃x y,wd l k=x/\wd l' k=y:=⟨_,_,rfl,rfl⟩
   have Q:x<4294967296:=by rw[<-p];exact cf G.out k
   have K:y<4294967296:=by rw[<-v];exact o.out.lt k
   have X:=Qh (show wd L k=x by rw[b.out.2.2 k Qr,p]);have E:=Qh v;have q:=Qh p;have W:=a.out.cell k hkM;have U:=a.out.frozen k;clear p v
   go_wp2_with (first
    |(go_at_call 256;(with_reducible refine(ch _ (some ⟨g,0,none⟩) n cap L ?_ k x X.out (by omega)).mono ?_);exact a.out.toWd;rintro e I⟨rfl,rfl⟩)
    |(go_at_call 256;(with_reducible refine(ch _ A' n' c' l' ?_ k y E.out (by omega)).mono ?_);exact d.out.wd_ o.out u.out;rintro e I⟨rfl,rfl⟩))
   go_roundw
   case rel =>
    refine⟨k+1,1-(4294967296+x-y-c)/4294967296,L.set k ((4294967296+x-y-c)%4294967296),by omega,by go_num,by congr 1;omega,by omega,⟨⟨wds_set b.out.1.1 _ (Nat.mod_lt _ (by omega)),?_⟩,by rw[xv];exact b.out.2.1,fun i hi=>?_⟩,a.out.set k (Nat.mod_lt _ (by omega)) (by omega),d.out.set k _⟩
    ·rw[cI _ _ _ (by rw[b.out.2.1,<-F.out];exact hkM),Sm,Sm,q.out,E.out,Nat.pow_succ]
     exact lb b.out.1.2 (by omega)
    rw[cq,kl (by omega)];exact b.out.2.2 i (by omega)
   case measure=>simp[intOf];omega
  have r:k=n:=by omega
  subst r
  have m:val L=val l-val l':=by
   have O:=b.out.1.2;have J:=dl b.out.1.1;have Z:=V.out;have N:=b.out.2.1;have P:=F.out;rw[N,<-P]at J;rw[bf L (by omega),bf l (by omega),bf l' (by rw[<-z.out];omega)]at O;rcases (show c=0\/c=1 by omega) with rfl|rfl
   ·omega
   omega
  have t:=Qh m;clear m;go_wp2_with fail;go_end0;exact⟨L,rfl,a.out,t.out,d.out⟩

def Two(w wr:World)(N:Nat)(va vb:Value)(x y:Nat):Prop:=∃ga na ca gb nb cb,va=.slice (some ⟨ga,0,none⟩) na ca/\vb=.slice (some ⟨gb,0,none⟩) nb cb/\OwS wr w.heap.size ga na ca (au x)/\OwS wr w.heap.size gb nb cb (au y)/\ga≠gb/\Below w.heap.size w wr/\x<4294967296^N/\y<4294967296^N
theorem fY{w:World}{B g n cap x N:Nat}(h:OwS w B g n cap (au x))(a:x<4294967296^N):n<=N:=by rw[h.len];exact ay a
theorem dX{w:World}{B g n cap x:Nat}(h:OwS w B g n cap (au x))(b:0<x):0<n:=by
 rw[h.len];rcases Nat.eq_zero_or_pos (au x).length with a|a
 ·have:=aV.1 (lq a);omega
 exact a
theorem yo(x:Nat):wd (au x) 0=x%4294967296:=by
 by_cases h:x=0
 ·subst h;rw[ax];rfl
 rw[gP h];rfl
theorem gW{w:World}{B g n cap x:Nat}(h:OwS w B g n cap (au x))(a:0<x):w.cell? ⟨g,0,none⟩=some (.int .u32 ((x%4294967296:Nat):Int)):=by
 rw[<-yo];exact h.cell 0 (dX h a)
theorem pu(p:Nat)(a:p<4294967296):Go.bits .and .u32 (p:Int) 1=((p%2:Nat):Int):=by
 have:=u32_and_nat p 1 a (by decide);rw[Nat.and_one_is_mod]at this;exact this
theorem fL{p:Nat}(a:p<4294967296)(h:p%2=0):(Go.bits .and .u32 (p:Int) 1==0)=true:=by rw[pu p a,h];rfl
theorem jr{p:Nat}(a:p<4294967296)(h:p%2=1):(Go.bits .and .u32 (p:Int) 1==0)=false:=by rw[pu p a,h];rfl
theorem OwS.of_digs{w:World}{B g n cap v x:Nat}(h:OwS w B g n cap (au (val (au v)/x))):OwS w B g n cap (au (v/x)):=by rw[ai]at h;exact h
theorem Two.left{w wr g:World}{N c t f j nb m x y u k:Nat}(o:Two w wr N (.slice (some ⟨c,0,none⟩) t f) (.slice (some ⟨j,0,none⟩) nb m) x y)(v:OwS g w.heap.size c k f (au u))(d:iP c wr g)(z:u<=x):Two w g N (.slice (some ⟨c,0,none⟩) k f) (.slice (some ⟨j,0,none⟩) nb m) u y:=by
 obtain⟨D,C,s,p,r,A,b,a,B,q,n,h,i,l⟩:=o;injection b with b e3 e4;injection b with b;injection b with b;injection a with a e5 e6;injection a with a;injection a with a;subst b a e3 e4 e5 e6;exact⟨c,k,f,j,nb,m,rfl,rfl,v,d.own q (Gn n),n,h.trans (d.1.mono B.base),Nat.lt_of_le_of_lt z i,l⟩
theorem Two.swap{w wr:World}{N:Nat}{f d:Value}{x y:Nat}(j:Two w wr N f d x y):Two w wr N d f y x:=by
 obtain⟨g,n,l,h,nb,o,q,m,p,k,i,a,b,c⟩:=j;exact⟨h,nb,o,g,n,l,m,q,k,p,Gn i,a,c,b⟩
theorem bB{w:World}{B g n cap x:Nat}(h:OwS w B g n cap (au x)):valOf w (.slice (some ⟨g,0,none⟩) n cap)=x:=by rw[h.toWd.valOf,ai]
theorem Two.at_{w wr:World}{N c g f d nb i x y:Nat}(j:Two w wr N (.slice (some ⟨c,0,none⟩) g f) (.slice (some ⟨d,0,none⟩) nb i) x y):OwS wr w.heap.size c g f (au x)/\OwS wr w.heap.size d nb i (au y)/\c≠d/\Below w.heap.size w wr/\x<4294967296^N/\y<4294967296^N:=by
 obtain⟨p,o,m,k,l,n,b,a,h⟩:=j;injection b with b e3 e4;injection b with b;injection b with b;injection a with a e5 e6;injection a with a;injection a with a;subst b a e3 e4 e5 e6;exact h
theorem OwS.belw{w f:World}{B g n cap:Nat}{l:List Nat}(h:OwS w B g n cap l)(hb:Below w.heap.size w f):OwS f B g n cap l:=by
 refine⟨⟨h.1.1,?_⟩,h.2⟩;rcases h.1.2 with⟨e,_⟩|⟨g',a,c,e,d,b,r⟩
 ·cases e
 exact .inr ⟨g',a,c,e,d,(hb.block g' (Gi b)).trans b,r⟩
theorem Two.belw{w wr d:World}{N:Nat}{g f:Value}{x y:Nat}(k:Two w wr N g f x y)(hb:Below wr.heap.size wr d):Two w d N g f x y:=by
 obtain⟨h,o,m,i,nb,p,r,n,q,l,j,a,b,c⟩:=k;exact⟨h,o,m,i,nb,p,r,n,q.belw hb,l.belw hb,j,a.trans (hb.mono a.size),b,c⟩
theorem eO{a b:Nat}(h:a<=b):(au a).length<=(au b).length:=ay (Nat.lt_of_le_of_lt h (by have:=dl (iL b);rwa[ai]at this))
theorem Two.form{w wr:World}{N:Nat}{h g:Value}{x y:Nat}(j:Two w wr N h g x y):∃b a f d nb c,h=.slice (some ⟨b,0,none⟩) a f/\g=.slice (some ⟨d,0,none⟩) nb c:=by
 obtain⟨b,a,f,d,nb,c,i,k,_⟩:=j;exact⟨b,a,f,d,nb,c,i,k⟩
theorem vr{t x x0 N:Nat}(h:x0=2^t*x)(d:0<x)(a:x0<4294967296^N):t<32*N:=by
 have c:2^t<=x0:=by rw[h];exact Nat.le_mul_of_pos_right _ d
 have b:(4294967296:Nat)^N=2^(32*N):=by rw[Nat.pow_mul]
 rw[b]at a;exact(Nat.pow_lt_pow_iff_right (by omega)).1 (Nat.lt_of_le_of_lt c a)
theorem Bk{x y:Nat}(h:¬(x%2=0/\y%2=0)):Nat.gcd x y%2=1:=by
 rcases Nat.mod_two_eq_zero_or_one (Nat.gcd x y) with a|a
 ·exfalso
  have b:2 ∣ Nat.gcd x y:=Nat.dvd_of_mod_eq_zero a;exact h ⟨Nat.mod_eq_zero_of_dvd (Nat.dvd_trans b (Nat.gcd_dvd_left x y)),Nat.mod_eq_zero_of_dvd (Nat.dvd_trans b (Nat.gcd_dvd_right x y))⟩
 exact a
theorem kB{u v G:Nat}(h:Nat.gcd u v=G)(f:G%2=1)(c:u%2=0):Nat.gcd (u/2) v=G:=by
 have d:v%2=1:=by
  rcases Nat.mod_two_eq_zero_or_one v with a|a
  ·exfalso
   have b:2 ∣ Nat.gcd u v:=Nat.dvd_gcd (Nat.dvd_of_mod_eq_zero c) (Nat.dvd_of_mod_eq_zero a);rw[h]at b;have:=Nat.mod_eq_zero_of_dvd b;omega
  exact a
 rw[nA c d];exact h
theorem Bl(w:World)(N:Nat)(hN:N<=1099511627000)(A n c l)(wa:Wd w A n c l)(hn:n<=N)(A' n' c' l')(wb:Wd w A' n' c' l')(dr:n'<=N)(h0:val l≠0)(c1:val l'≠0):
 Calls Tryz.prog 214 #[.slice A n c,.slice A' n' c'] w (gS w (au (Nat.gcd (val l) (val l')))):=by
 have ck:=wa.vlt hn;have a9:=wb.vlt dr;obtain⟨x0,br⟩:∃x,val l=x:=⟨_,rfl⟩;obtain⟨y0,bu⟩:∃y,val l'=y:=⟨_,rfl⟩;rw[br]at ck h0;rw[bu]at a9 c1;rw[br,bu];have dO:=Qh br;have c8:=Qh bu;have bo:=Qh ck;have c9:=Qh a9;have cp:0<x0:=by omega
 have c4:0<y0:=by omega
 clear br bu ck a9 h0 c1;go_in;go_wp2_with fail;refine(ky _ A n c l ?_ ?_).mono ?_;(exact wa);(omega);rintro e w1⟨ga,na,ca,rfl,h1,bl⟩;rw[dO.out]at h1;go_wp2_with fail;refine(ky _ A' n' c' l' ?_ ?_).mono ?_;(exact wb.belw bl);(omega);rintro e w2⟨gb,nb,cb,rfl,h2,b6⟩;rw[c8.out]at h2;have hg:ga≠gb:=by have:=h1.lt;have:=h2.base;omega
 have c6:OwS w2 w.heap.size ga na ca (au x0):=by
  refine⟨⟨h1.1.1,?_⟩,h1.2⟩;rcases h1.1.2 with⟨e,_⟩|⟨g',a2,b1,e,hb,cz,r⟩
  ·cases e
  exact .inr ⟨g',a2,b1,e,hb,(b6.block g' (Gi cz)).trans cz,r⟩
 have cx:OwS w2 w.heap.size gb nb cb (au y0):=by
  refine⟨⟨h2.1.1,?_⟩,h2.2⟩;rcases h2.1.2 with⟨e,_⟩|⟨g',a2,b1,e,hb,r⟩
  ·cases e
  exact .inr ⟨g',a2,b1,e,Nat.le_trans bl.size hb,r⟩
 have HT:=Qh (show Two w w2 N (.slice (some ⟨ga,0,none⟩) na ca) (.slice (some ⟨gb,0,none⟩) nb cb) x0 y0 from⟨ga,na,ca,gb,nb,cb,rfl,rfl,c6,cx,hg,bl.trans (b6.mono bl.size),bo.out,c9.out⟩);have ea:((na:Int)==0)=false:=by have:=dX h1 cp;simp;omega
 have eb:((nb:Int)==0)=false:=by have:=dX h2 c4;simp;omega
 clear h1 h2 c6 cx bl b6 hg;go_wp2_with fail;go_loopw [0,1,5] (fun T S tv wr=>∃(x y t:Nat),Two w wr N T S x y/\tv=.int .i64 (t:Nat)/\0<x/\0<y/\x0=2^t*x/\y0=2^t*y) (fun T _ _ wr=>valOf wr T)
 case atStart=>exact⟨x0,y0,0,HT.out,rfl,cp,c4,by simp,by simp⟩
 case round =>
  obtain⟨x,y,t,hT,rfl,hx,hy,hex,c5⟩:=hrel;obtain⟨ga,na,ca,gb,nb,cb,rfl,rfl⟩:=hT.form;have HT:=Qh hT;have bn:=gW hT.at_.1 hx;have bv:=gW hT.at_.2.1 hy;have cv:=dX hT.at_.1 hx;have bs:=dX hT.at_.2.1 hy;have bF:=fY hT.at_.1 hT.at_.2.2.2.2.1;have bx:=fY hT.at_.2.1 hT.at_.2.2.2.2.2;obtain⟨p,hp⟩:=Z9 (x%4294967296);obtain⟨q,hq⟩:=Z9 (y%4294967296);rw[hp]at bn;rw[hq]at bv;have ba:p<4294967296:=by omega
  have bw:q<4294967296:=by omega
  have c3:x%2=p%2:=by omega
  have cy:y%2=q%2:=by omega
  have ht:t<32*N:=vr hex hx bo.out;have HE:=Qh (And.intro hex c5);have HP:=Qh (And.intro c3 cy);clear hex c5 hp hq c3 cy hT;by_cases aS:p%2=0/\q%2=0
  ·have ea:=fL ba aS.1
   have eb:=fL bw aS.2;have c2:=Qh aS;clear aS;go_wp2_with fail;refine(fH _ w.heap.size ga na ca (au x) ?_ ?_).mono ?_;(exact HT.out.at_.1);(omega);rintro e w1⟨k1,rfl,o1,bz⟩;have cL:=Qh (HT.out.left o1.of_digs bz (Nat.div_le_self _ _));clear o1 bz bn bv;go_wp2_with fail;refine(fH _ w.heap.size gb nb cb (au y) ?_ ?_).mono ?_;(exact cL.out.at_.2.1);(omega);rintro e w2⟨k2,rfl,o2,bY⟩;have b:=Qh (cL.out.swap.left o2.of_digs bY (Nat.div_le_self _ _)).swap;clear o2 bY;go_wp2_with fail;go_roundw
   case rel =>
    have h1:x=2*(x/2):=by have:=HP.out.1;have:=c2.out.1;omega
    have h2:y=2*(y/2):=by have:=HP.out.2;have:=c2.out.2;omega
    exact⟨x/2,y/2,t+1,b.out,by go_num,by omega,by omega,by rw[HE.out.1,Nat.pow_succ,Nat.mul_assoc,<-h1],by rw[HE.out.2,Nat.pow_succ,Nat.mul_assoc,<-h2]⟩
   case measure =>
    rw[bB b.out.at_.1,bB HT.out.at_.1];omega
  have b2:Nat.gcd x y%2=1:=Bk (by intro h;exact aS ⟨by have:=HP.out.1;omega,by have:=HP.out.2;omega⟩);obtain⟨G,hG⟩:=Z9 (Nat.gcd x y);rw[hG]at b2;have HG:=Qh (And.intro hG b2);have d1:0<G:=by omega
  clear hG b2;rcases (show p%2=1\/(p%2=0/\q%2=1) by omega) with h1|⟨h1,h2⟩
  ·have ea:=jr ba h1
   clear aS h1;go_wp2_with fail;clear ea
   try clear eb
   have e5:0<nb:=bs;clear bn bv ba bw cv bs bF bx;go_loopw [0,1] (fun T S wr=>∃(u v:Nat),Two w wr N T S u v/\0<v/\Nat.gcd u v=G) (fun T S wr=>valOf wr T+valOf wr S)
   case atStart=>exact⟨x,y,HT.out,hy,HG.out.1⟩
   case round =>
    rename_i c7;obtain⟨u,v,al,hv,a6⟩:=hrel;obtain⟨dd,b7,ds,b3,b4,b5,rfl,rfl⟩:=al.form;have b:=Qh al;have a1:=Qh a6;clear al a6;by_cases hu:u=0
    ·subst hu
     have e0:b7=0:=by rw[b.out.at_.1.len,ax];rfl
     subst e0;have b9:=Qh (show v=G by have:=a1.out;simpa using this);go_wp2_with fail;go_loopw [1,65] (fun S iv wr=>∃(j:Nat) (B:Option Addr) (m cc:Nat),S=.slice B m cc/\Wd wr B m cc (au (2^j*G))/\m<=N/\iv=.int .i64 (j:Nat)/\j<=t/\Below w.heap.size w wr) (fun _ iv _=>t-(intOf iv).toNat)
     case atStart =>
      have:=b9.out;subst this;exact⟨0,_,_,_,rfl,by simpa using b.out.at_.2.1.toWd,fY b.out.at_.2.1 b.out.at_.2.2.2.2.2,rfl,Nat.zero_le _,b.out.at_.2.2.2.1⟩
     case round =>
      obtain⟨j,B,m,cc,rfl,hw,hm,rfl,hj,a5⟩:=hrel;have HW:=Qh hw;have HB:=Qh a5;clear hw a5;by_cases o:j<t
      ·go_wp2_with fail
       refine(mr _ B m cc (au (2^j*G)) ?_ ?_ B m cc (au (2^j*G)) ?_ ?_).mono ?_;(exact HW.out);(omega);(exact HW.out);(omega);rintro e w4⟨B',m',b8,rfl,h4,cn⟩;have hz:val (au (2^j*G))+val (au (2^j*G))=2^(j+1)*G:=by rw[ai,Nat.pow_succ];grind
       rw[hz]at h4;have HZ:=Qh hz;have H4:=Qh h4;clear hz h4;go_wp2_with fail;go_roundw
       case rel =>
        refine⟨j+1,B',m',b8,rfl,H4.out,?_,by go_num,by omega,HB.out.trans (cn.mono HB.out.size)⟩;rw[H4.out.2.1];refine ay (Nat.lt_of_le_of_lt ?_ bo.out);rw[HE.out.1];refine Nat.le_trans (Nat.mul_le_mul_right G (Nat.pow_le_pow_right (by omega) (show j+1<=t by omega))) (Nat.mul_le_mul_left _ ?_);rw[<-HG.out.1];exact Nat.gcd_le_left _ hx
       case measure=>simp[intOf];omega
      have cj:j=t:=by omega
      subst cj;go_wp2;go_ret;refine⟨B,m,cc,rfl,?_,HB.out⟩;rw[HE.out.1,HE.out.2,Nat.gcd_mul_left,HG.out.1];exact HW.out
    have bd:0<u:=by omega
    have c0:=dX b.out.at_.1 bd;go_wp2_with fail;go_loopw [0] (fun T wr=>∃(d:Nat),Two w wr N T (.slice (some ⟨b3,0,none⟩) b4 b5) d v/\0<d/\Nat.gcd d v=G/\d<=u) (fun T wr=>valOf wr T)
    case atStart=>exact⟨u,b.out,bd,a1.out,Qr⟩
    case round =>
     rename_i d0;obtain⟨d,k,ao,V,co⟩:=hrel;obtain⟨H,F,D,_,_,_,rfl,_⟩:=k.form;have U:=Qh k;have ac:=Qh V;have aF:=gW k.at_.1 ao;have dq:=dX k.at_.1 ao;have cu:=fY k.at_.1 k.at_.2.2.2.2.1;obtain⟨p3,a0⟩:∃p,d%4294967296=p:=⟨_,rfl⟩;rw[a0]at aF;have X:p3<4294967296:=by omega
     have bg:d%2=p3%2:=by omega
     clear k V a0;by_cases P:p3%2=0
     ·have a3:=fL X P
      have J:=Qh (show d%2=0 by omega);clear P bg;go_wp2_with fail;refine(fH _ w.heap.size H F D (au d) ?_ ?_).mono ?_;(exact U.out.at_.1);(omega);rintro e w4⟨k4,rfl,o4,W⟩;have bk:=Qh (U.out.left o4.of_digs W (Nat.div_le_self _ _));clear o4 W aF;go_wp2_with fail;go_roundw
      case rel =>
       have:=J.out;exact⟨d/2,bk.out,by omega,kB ac.out HG.out.2 this,by omega⟩
      case measure =>
       rw[bB bk.out.at_.1,bB U.out.at_.1];have:=J.out;omega
     have a3:=jr X (show p3%2=1 by omega);clear P bg;go_wp2_with fail;clear a3 aF;go_loopw [1] (fun S wr=>∃(f:Nat),Two w wr N (.slice (some ⟨H,0,none⟩) F D) S d f/\0<f/\Nat.gcd d f=G/\f<=v) (fun S wr=>valOf wr S)
     case atStart=>exact⟨v,U.out,hv,ac.out,Qr⟩
     case round =>
      rename_i di;obtain⟨f,z,aZ,Z,cr⟩:=hrel;obtain⟨_,_,_,R,O,M,_,rfl⟩:=z.form;have E:=Qh z;have K:=Qh Z;have aT:=gW z.at_.2.1 aZ;have dv:=dX z.at_.2.1 aZ;have cs:=fY z.at_.2.1 z.at_.2.2.2.2.2;obtain⟨p5,bb⟩:∃p,f%4294967296=p:=⟨_,rfl⟩;rw[bb]at aT;have ab:p5<4294967296:=by omega
      have be:f%2=p5%2:=by omega
      clear z Z bb;by_cases I:p5%2=0
      ·have a4:=fL ab I
       have J:=Qh (show f%2=0 by omega);clear I be;go_wp2_with fail;refine(fH _ w.heap.size R O M (au f) ?_ ?_).mono ?_;(exact E.out.at_.2.1);(omega);rintro e w6⟨k6,rfl,o6,Y⟩;have a:=Qh (E.out.swap.left o6.of_digs Y (Nat.div_le_self _ _)).swap;clear o6 Y aT;go_wp2_with fail;go_roundw
       case rel =>
        have:=J.out;exact⟨f/2,a.out,by omega,by rw[Nat.gcd_comm];exact kB (by rw[Nat.gcd_comm];exact K.out) HG.out.2 this,by omega⟩
       case measure =>
        rw[bB a.out.at_.2.1,bB E.out.at_.2.1];have:=J.out;omega
      have a4:=jr ab (show p5%2=1 by omega);clear I be;go_wp2_with fail;clear a4 aT;refine(fi _ (some ⟨H,0,none⟩) F D (au d) ?_ ?_ (some ⟨R,0,none⟩) O M (au f) ?_ ?_).mono ?_;(exact E.out.at_.1.toWd);(omega);(exact E.out.at_.2.1.toWd);(omega);rintro e w6⟨rfl,a8⟩;have a:=Qh (E.out.belw a8);clear a8;rw[ai,ai];by_cases o:d<f
      ·rw[show bS d f=-1 by unfold bS;rw[kZ o]]
       have g:=Qh (Nat.le_of_lt o);clear o;go_wp2_with fail;refine(iQ _ w.heap.size R O M (au f) ?_ ?_ (some ⟨H,0,none⟩) F D (au d) ?_ ?_ ?_ ?_).mono ?_;(exact a.out.at_.2.1);(omega);(exact a.out.at_.1.toWd);(intro ad e;injection e with e;subst e;exact a.out.at_.2.2.1);(rw[a.out.at_.2.1.len,a.out.at_.1.len];exact eO g.out);(rw[ai,ai];exact g.out);rintro e w7⟨L,rfl,o7,C,i⟩;rw[ai,ai]at C;have an:=Qh C;have aC:=Qh o7;have Q:=Qh i;clear C o7 i;go_wp2_with fail;refine(kA _ w.heap.size R O M L ?_ ?_).mono ?_;(exact aC.out);(omega);rintro e w8⟨k8,rfl,o8,rfl⟩;rw[an.out]at o8;have s:=Qh (a.out.swap.left o8 Q.out (Nat.sub_le _ _));clear o8;go_wp2_with fail;go_roundw
       case rel=>exact⟨f-d,d,s.out,ao,by rw[lP g.out];rw[Nat.gcd_comm];exact K.out⟩
       case measure =>
        rw[bB s.out.at_.1,bB s.out.at_.2.1,bB b.out.at_.1,bB b.out.at_.2.1];have:=g.out;omega

      ·have b0:decide (bS d f<0)=false:=by unfold bS;rw[kl o];split<;>decide
       have g:=Qh (Nat.le_of_not_lt o);obtain⟨cm,a7⟩:=Z9 (bS d f);rw[a7]at b0⊢;clear o a7;go_wp2_with fail;refine(iQ _ w.heap.size H F D (au d) ?_ ?_ (some ⟨R,0,none⟩) O M (au f) ?_ ?_ ?_ ?_).mono ?_;(exact a.out.at_.1);(omega);(exact a.out.at_.2.1.toWd);(intro ad e;injection e with e;subst e;exact Gn a.out.at_.2.2.1);(rw[a.out.at_.1.len,a.out.at_.2.1.len];exact eO g.out);(rw[ai,ai];exact g.out);rintro e w7⟨L,rfl,o7,C,i⟩;rw[ai,ai]at C;have an:=Qh C;have aC:=Qh o7;have Q:=Qh i;clear C o7 i;go_wp2_with fail;refine(kA _ w.heap.size H F D L ?_ ?_).mono ?_;(exact aC.out);(omega);rintro e w8⟨k8,rfl,o8,rfl⟩;rw[an.out]at o8;have s:=Qh (a.out.left o8 Q.out (Nat.sub_le _ _));clear o8;go_wp2_with fail;go_roundw
       case rel=>exact⟨d-f,f,s.out,aZ,by rw[lP g.out];exact K.out⟩
       case measure =>
        rw[bB s.out.at_.1,bB s.out.at_.2.1,bB b.out.at_.1,bB b.out.at_.2.1];have:=g.out;omega


  ·have ea:=fL ba h1
   have eb:=jr bw h2;clear h2;clear aS h1;go_wp2_with fail;clear ea
   try clear eb
   have e5:0<nb:=bs;clear bn bv ba bw cv bs bF bx;go_loopw [0,1] (fun T S wr=>∃(u v:Nat),Two w wr N T S u v/\0<v/\Nat.gcd u v=G) (fun T S wr=>valOf wr T+valOf wr S)
   case atStart=>exact⟨x,y,HT.out,hy,HG.out.1⟩
   case round =>
    rename_i c7;obtain⟨u,v,al,hv,a6⟩:=hrel;obtain⟨dd,b7,ds,b3,b4,b5,rfl,rfl⟩:=al.form;have b:=Qh al;have a1:=Qh a6;clear al a6;by_cases hu:u=0
    ·subst hu
     have e0:b7=0:=by rw[b.out.at_.1.len,ax];rfl
     subst e0;have b9:=Qh (show v=G by have:=a1.out;simpa using this);go_wp2_with fail;go_loopw [1,65] (fun S iv wr=>∃(j:Nat) (B:Option Addr) (m cc:Nat),S=.slice B m cc/\Wd wr B m cc (au (2^j*G))/\m<=N/\iv=.int .i64 (j:Nat)/\j<=t/\Below w.heap.size w wr) (fun _ iv _=>t-(intOf iv).toNat)
     case atStart =>
      have:=b9.out;subst this;exact⟨0,_,_,_,rfl,by simpa using b.out.at_.2.1.toWd,fY b.out.at_.2.1 b.out.at_.2.2.2.2.2,rfl,Nat.zero_le _,b.out.at_.2.2.2.1⟩
     case round =>
      obtain⟨j,B,m,cc,rfl,hw,hm,rfl,hj,a5⟩:=hrel;have HW:=Qh hw;have HB:=Qh a5;clear hw a5;by_cases o:j<t
      ·go_wp2_with fail
       refine(mr _ B m cc (au (2^j*G)) ?_ ?_ B m cc (au (2^j*G)) ?_ ?_).mono ?_;(exact HW.out);(omega);(exact HW.out);(omega);rintro e w4⟨B',m',b8,rfl,h4,cn⟩;have hz:val (au (2^j*G))+val (au (2^j*G))=2^(j+1)*G:=by rw[ai,Nat.pow_succ];grind
       rw[hz]at h4;have HZ:=Qh hz;have H4:=Qh h4;clear hz h4;go_wp2_with fail;go_roundw
       case rel =>
        refine⟨j+1,B',m',b8,rfl,H4.out,?_,by go_num,by omega,HB.out.trans (cn.mono HB.out.size)⟩;rw[H4.out.2.1];refine ay (Nat.lt_of_le_of_lt ?_ bo.out);rw[HE.out.1];refine Nat.le_trans (Nat.mul_le_mul_right G (Nat.pow_le_pow_right (by omega) (show j+1<=t by omega))) (Nat.mul_le_mul_left _ ?_);rw[<-HG.out.1];exact Nat.gcd_le_left _ hx
       case measure=>simp[intOf];omega
      have cj:j=t:=by omega
      subst cj;go_wp2;go_ret;refine⟨B,m,cc,rfl,?_,HB.out⟩;rw[HE.out.1,HE.out.2,Nat.gcd_mul_left,HG.out.1];exact HW.out
    have bd:0<u:=by omega
    have c0:=dX b.out.at_.1 bd;go_wp2_with fail;go_loopw [0] (fun T wr=>∃(d:Nat),Two w wr N T (.slice (some ⟨b3,0,none⟩) b4 b5) d v/\0<d/\Nat.gcd d v=G/\d<=u) (fun T wr=>valOf wr T)
    case atStart=>exact⟨u,b.out,bd,a1.out,Qr⟩
    case round =>
     rename_i d0;obtain⟨d,k,ao,V,co⟩:=hrel;obtain⟨H,F,D,_,_,_,rfl,_⟩:=k.form;have U:=Qh k;have ac:=Qh V;have aF:=gW k.at_.1 ao;have dq:=dX k.at_.1 ao;have cu:=fY k.at_.1 k.at_.2.2.2.2.1;obtain⟨p3,a0⟩:∃p,d%4294967296=p:=⟨_,rfl⟩;rw[a0]at aF;have X:p3<4294967296:=by omega
     have bg:d%2=p3%2:=by omega
     clear k V a0;by_cases P:p3%2=0
     ·have a3:=fL X P
      have J:=Qh (show d%2=0 by omega);clear P bg;go_wp2_with fail;refine(fH _ w.heap.size H F D (au d) ?_ ?_).mono ?_;(exact U.out.at_.1);(omega);rintro e w4⟨k4,rfl,o4,W⟩;have bk:=Qh (U.out.left o4.of_digs W (Nat.div_le_self _ _));clear o4 W aF;go_wp2_with fail;go_roundw
      case rel =>
       have:=J.out;exact⟨d/2,bk.out,by omega,kB ac.out HG.out.2 this,by omega⟩
      case measure =>
       rw[bB bk.out.at_.1,bB U.out.at_.1];have:=J.out;omega
     have a3:=jr X (show p3%2=1 by omega);clear P bg;go_wp2_with fail;clear a3 aF;go_loopw [1] (fun S wr=>∃(f:Nat),Two w wr N (.slice (some ⟨H,0,none⟩) F D) S d f/\0<f/\Nat.gcd d f=G/\f<=v) (fun S wr=>valOf wr S)
     case atStart=>exact⟨v,U.out,hv,ac.out,Qr⟩
     case round =>
      rename_i di;obtain⟨f,z,aZ,Z,cr⟩:=hrel;obtain⟨_,_,_,R,O,M,_,rfl⟩:=z.form;have E:=Qh z;have K:=Qh Z;have aT:=gW z.at_.2.1 aZ;have dv:=dX z.at_.2.1 aZ;have cs:=fY z.at_.2.1 z.at_.2.2.2.2.2;obtain⟨p5,bb⟩:∃p,f%4294967296=p:=⟨_,rfl⟩;rw[bb]at aT;have ab:p5<4294967296:=by omega
      have be:f%2=p5%2:=by omega
      clear z Z bb;by_cases I:p5%2=0
      ·have a4:=fL ab I
       have J:=Qh (show f%2=0 by omega);clear I be;go_wp2_with fail;refine(fH _ w.heap.size R O M (au f) ?_ ?_).mono ?_;(exact E.out.at_.2.1);(omega);rintro e w6⟨k6,rfl,o6,Y⟩;have a:=Qh (E.out.swap.left o6.of_digs Y (Nat.div_le_self _ _)).swap;clear o6 Y aT;go_wp2_with fail;go_roundw
       case rel =>
        have:=J.out;exact⟨f/2,a.out,by omega,by rw[Nat.gcd_comm];exact kB (by rw[Nat.gcd_comm];exact K.out) HG.out.2 this,by omega⟩
       case measure =>
        rw[bB a.out.at_.2.1,bB E.out.at_.2.1];have:=J.out;omega
      have a4:=jr ab (show p5%2=1 by omega);clear I be;go_wp2_with fail;clear a4 aT;refine(fi _ (some ⟨H,0,none⟩) F D (au d) ?_ ?_ (some ⟨R,0,none⟩) O M (au f) ?_ ?_).mono ?_;(exact E.out.at_.1.toWd);(omega);(exact E.out.at_.2.1.toWd);(omega);rintro e w6⟨rfl,a8⟩;have a:=Qh (E.out.belw a8);clear a8;rw[ai,ai];by_cases o:d<f
      ·rw[show bS d f=-1 by unfold bS;rw[kZ o]]
       have g:=Qh (Nat.le_of_lt o);clear o;go_wp2_with fail;refine(iQ _ w.heap.size R O M (au f) ?_ ?_ (some ⟨H,0,none⟩) F D (au d) ?_ ?_ ?_ ?_).mono ?_;(exact a.out.at_.2.1);(omega);(exact a.out.at_.1.toWd);(intro ad e;injection e with e;subst e;exact a.out.at_.2.2.1);(rw[a.out.at_.2.1.len,a.out.at_.1.len];exact eO g.out);(rw[ai,ai];exact g.out);rintro e w7⟨L,rfl,o7,C,i⟩;rw[ai,ai]at C;have an:=Qh C;have aC:=Qh o7;have Q:=Qh i;clear C o7 i;go_wp2_with fail;refine(kA _ w.heap.size R O M L ?_ ?_).mono ?_;(exact aC.out);(omega);rintro e w8⟨k8,rfl,o8,rfl⟩;rw[an.out]at o8;have s:=Qh (a.out.swap.left o8 Q.out (Nat.sub_le _ _));clear o8;go_wp2_with fail;go_roundw
       case rel=>exact⟨f-d,d,s.out,ao,by rw[lP g.out];rw[Nat.gcd_comm];exact K.out⟩
       case measure =>
        rw[bB s.out.at_.1,bB s.out.at_.2.1,bB b.out.at_.1,bB b.out.at_.2.1];have:=g.out;omega

      ·have b0:decide (bS d f<0)=false:=by unfold bS;rw[kl o];split<;>decide
       have g:=Qh (Nat.le_of_not_lt o);obtain⟨cm,a7⟩:=Z9 (bS d f);rw[a7]at b0⊢;clear o a7;go_wp2_with fail;refine(iQ _ w.heap.size H F D (au d) ?_ ?_ (some ⟨R,0,none⟩) O M (au f) ?_ ?_ ?_ ?_).mono ?_;(exact a.out.at_.1);(omega);(exact a.out.at_.2.1.toWd);(intro ad e;injection e with e;subst e;exact Gn a.out.at_.2.2.1);(rw[a.out.at_.1.len,a.out.at_.2.1.len];exact eO g.out);(rw[ai,ai];exact g.out);rintro e w7⟨L,rfl,o7,C,i⟩;rw[ai,ai]at C;have an:=Qh C;have aC:=Qh o7;have Q:=Qh i;clear C o7 i;go_wp2_with fail;refine(kA _ w.heap.size H F D L ?_ ?_).mono ?_;(exact aC.out);(omega);rintro e w8⟨k8,rfl,o8,rfl⟩;rw[an.out]at o8;have s:=Qh (a.out.left o8 Q.out (Nat.sub_le _ _));clear o8;go_wp2_with fail;go_roundw
       case rel=>exact⟨d-f,f,s.out,aZ,by rw[lP g.out];exact K.out⟩
       case measure =>
        rw[bB s.out.at_.1,bB s.out.at_.2.1,bB b.out.at_.1,bB b.out.at_.2.1];have:=g.out;omega


theorem ua(w:World)(A n c l)(t:Wd w A n c l)(F:n<=1099511627000)(A' n' c' l')(s:Wd w A' n' c' l')(u:n'<=1099511627000)(p:val l=0\/val l'=0):
 Calls Tryz.prog 214 #[.slice A n c,.slice A' n' c'] w (gS w (au (Nat.gcd (val l) (val l')))):=by
 have r:=Qh p;clear p;go_in;go_wp2_with fail;refine(ky _ A n c l ?_ ?_).mono ?_;(exact t);(omega);rintro e z⟨y,o,C,rfl,m,b⟩;go_wp2_with fail;refine(ky _ A' n' c' l' ?_ ?_).mono ?_;(exact s.belw b);(omega);rintro e H⟨B,nb,E,rfl,j,f⟩;have q:=Qh (b.trans (f.mono b.size));have v:=Qh (m.belw f);have x:=Qh j;have a:=m.len;have g:=j.len;clear m j b f;by_cases i:val l=0
 ·have e:o=0:=by rw[a,i,ax];rfl
  have k:=Qh (show au (Nat.gcd (val l) (val l'))=au (val l') by rw[i,Nat.gcd_zero_left]);subst e;clear a g i;go_wp2;go_ret;exact⟨_,_,_,rfl,by rw[k.out];exact x.out.toWd,q.out⟩
 have d:val l'=0:=r.out.resolve_left i;have e:nb=0:=by rw[g,d,ax];rfl
 have D:0<o:=by
  rw[a];rcases Nat.eq_zero_or_pos (au (val l)).length with h|h
  ·exact absurd (aV.1 (lq h)) i
  exact h
 have G:((o:Int)==0)=false:=by simp;omega
 have k:=Qh (show au (Nat.gcd (val l) (val l'))=au (val l) by rw[d,Nat.gcd_zero_right]);subst e;clear a g i d;go_wp2;go_ret;exact⟨_,_,_,rfl,by rw[k.out];exact v.out.toWd,q.out⟩
theorem vt(w:World)(A n c l)(d:Wd w A n c l)(f:n<=1099511627000)(A' n' c' l')(b:Wd w A' n' c' l')(a:n'<=1099511627000):
 Calls Tryz.prog 214 #[.slice A n c,.slice A' n' c'] w (gS w (au (Nat.gcd (val l) (val l')))):=by
 by_cases h:val l=0
 ·exact ua w A n c l d f A' n' c' l' b a (.inl h)
 by_cases h':val l'=0
 ·exact ua w A n c l d f A' n' c' l' b a (.inr h')
 exact Bl w 1099511627000 Qr A n c l d f A' n' c' l' b a h h'
theorem Bm{w g:World}{A:Option Addr}{n c:Nat}{l:List Nat}{i:Option Addr}{b j:Nat}{d:List Nat}{N:Nat}(h:Wd w A n c l)(f:Wd g i b j d)(k:n<=N)(a:b<=N):(au (Nat.gcd (val l) (val d))).length<=N:=ay (sK (h.vlt k) (f.vlt a))
theorem Bo(w:World)(b:Bool)(A n c l)(g:Wd w A n c l)(D:n<=1099511627000)(p:Bool)(A' n' c' l')(f:Wd w A' n' c' l')(s:n'<=1099511627000):
 Calls Tryz.prog 172 #[.agg #[.bool b,.slice A n c],.agg #[.bool p,.slice A' n' c']] w (jU w (wh (Nat.gcd (WD.z ⟨b,l⟩).natAbs (WD.z ⟨p,l'⟩).natAbs:Nat))):=by
 have C:=Qh g.2.1;have t:=Qh f.2.1;rw[lD,lD];go_in;go_wp2_with fail;have b0:Below w.heap.size w (((w.alloc (.cells #[.bool b,.slice A n c] 194)).alloc (.cells #[.bool p,.slice A' n' c'] 194)).alloc (.cells #[.bool false,.slice none 0 0] 194)):=((((kz _ _).alloc Qr _).alloc (by simp) _).alloc (by simp;omega) _);generalize a:(((w.alloc (.cells #[.bool b,.slice A n c] 194)).alloc (.cells #[.bool p,.slice A' n' c'] 194)).alloc (.cells #[.bool false,.slice none 0 0] 194))=W0 at b0⊢;have U:W0.cell? ⟨w.heap.size,0,none⟩=some (.bool b):=by subst a;simp[go_sem]
 have ac:W0.frozen? ⟨w.heap.size,0,none⟩=false:=by subst a;simp[go_sem]
 have ab:W0.cell? ⟨w.heap.size,1,none⟩=some (.slice A n c):=by subst a;simp[go_sem]
 have S:W0.frozen? ⟨w.heap.size,1,none⟩=false:=by subst a;simp[go_sem]
 have T:W0.cell? ⟨w.heap.size+1,0,none⟩=some (.bool p):=by subst a;simp[go_sem]
 have J:W0.frozen? ⟨w.heap.size+1,0,none⟩=false:=by subst a;simp[go_sem]
 have M:W0.cell? ⟨w.heap.size+1,1,none⟩=some (.slice A' n' c'):=by subst a;simp[go_sem]
 have V:W0.frozen? ⟨w.heap.size+1,1,none⟩=false:=by subst a;simp[go_sem]
 have ad:W0.cell? ⟨w.heap.size+1+1,0,none⟩=some (.bool false):=by subst a;simp[go_sem]
 have R:W0.frozen? ⟨w.heap.size+1+1,0,none⟩=false:=by subst a;simp[go_sem]
 have X:W0.cell? ⟨w.heap.size+1+1,1,none⟩=some (.slice none 0 0):=by subst a;simp[go_sem]
 have E:W0.frozen? ⟨w.heap.size+1+1,1,none⟩=false:=by subst a;simp[go_sem]
 have x0:Box W0 w.heap.size 194:=by subst a;exact((bT _ _ _ (by simp)).alloc _).alloc _
 have x1:Box W0 (w.heap.size+1) 194:=by subst a;exact(bT _ _ _ (by simp)).alloc _
 have W:Box W0 (w.heap.size+1+1) 194:=by subst a;exact bT _ _ _ (by simp)
 have B:j7 (w.heap.size+1+1) (w.heap.size+1+1+1) 2 W0:=by subst a;exact mg (by simp)
 have i:w.heap.size+1+1+1<=W0.heap.size:=by subst a;simp
 clear a;have g:=g.belw b0;have f:=f.belw b0;have O:Below W0.heap.size W0 W0:=aa _;have h:w.heap.size+1+1<=w.heap.size+1+1+1:=by omega
 go_region_held3 (fun G=>Sees (w.heap.size+1+1) W0 G) (first|exact Sees.of (Nat.le_trans h i) (by assumption)|exact Sees.of (Nat.le_trans h i) (af (by assumption) _)|exact(Sees.set (Sees.of (Nat.le_trans h i) (by assumption)) (by simp))|exact(Sees.set (Sees.set (Sees.of (Nat.le_trans h i) (by assumption)) (by simp)) (by simp)))
  (first
   |(go_at_call 215;(with_reducible refine(cU _ b A n c l ?_ ?_).mono ?_);(exact g);(omega);rintro e w1⟨K,n1,c1,rfl,o,j⟩;replace j:=ag (af (aa _) 1) j;have H:=ag O j;replace g:=g.belw j;replace f:=f.belw j)
   |(go_at_call 215;(with_reducible refine(cU _ p A' n' c' l' ?_ ?_).mono ?_);(exact f);(omega);rintro e w2⟨A2,L,c2,rfl,r,q⟩;have Y:=ag H q;replace g:=g.belw q;replace f:=f.belw q;replace o:=o.belw q)
   |(go_at_call 214;(with_reducible refine(vt _ K n1 c1 (WD.m ⟨b,l⟩) ?_ ?_ A2 L c2 (WD.m ⟨p,l'⟩) ?_ ?_).mono ?_);(exact o);(exact o.m_len (by rw[<-C.out];exact D));(exact r);(exact r.m_len (by rw[<-t.out];exact s));rintro e w3⟨Z,I,c3,rfl,u,k⟩;have F:=ag Y k;replace g:=g.belw k;replace f:=f.belw k;replace o:=o.belw k;replace r:=r.belw k)
   |(go_at_call 213;(with_reducible refine(dW _ false Z I c3 (au (Nat.gcd (val (WD.m ⟨b,l⟩)) (val (WD.m ⟨p,l'⟩)))) (Nat.gcd (val (WD.m ⟨b,l⟩)) (val (WD.m ⟨p,l'⟩)):Nat) ?_ ?_ ?_).mono ?_);(exact u);(rw[u.2.1];exact Bm o r (Nat.le_trans (o.m_len (by rw[<-C.out];exact D)) (by decide)) (Nat.le_trans (r.m_len (by rw[<-t.out];exact s)) (by decide)));(rw[ai];rfl);rintro e w4⟨Q,n4,c4,rfl,N,d⟩;have y:=ag F d;replace g:=g.belw d;replace f:=f.belw d;replace o:=o.belw d;replace r:=r.belw d;replace u:=u.belw d;obtain⟨⟨sc,sf⟩,P,sz⟩:=bO.of (by omega) i B y))
 clear h;go_wp2_with fail;refine xD (v:=.agg #[.bool _,.slice Q n4 c4]) (by simp[results,Tryz.results172,go_sem,P];rfl) rfl ?_;have x:=W.below y;refine km ?_ ?_ ?_
 ·rfl
 ·exact N.keep (kp2 x (by decide) _ _ _ _)
 exact((b0.trans (y.mono b0.size)).setCell (by dsimp only;omega) _).setCell (by dsimp only;omega) _
theorem ub(w:World)(b A n c z k)(h:IZ w b A n c z k)(b' A' n' c' z' k')(f:IZ w b' A' n' c' z' k')(p:k+k'<=1000000000):Calls Tryz.prog 172 #[.agg #[.bool b,.slice A n c],.agg #[.bool b',.slice A' n' c']] w (j8 w (Nat.gcd z.natAbs z'.natAbs:Nat) (k+k')):=by
 have o:=h.mono (Nat.le_add_right k k') |>.lt
 have a:=f.mono (Nat.le_add_left k' k) |>.lt
 obtain⟨l,j,rfl,q⟩:=h;obtain⟨g,d,rfl,m⟩:=f;exact(Bo w b A n c l j (by omega) b' A' n' c' g d (by omega)).mono fun _ _ r=>r.i (by simpa using sK o a)
theorem qP(w:World):
 Calls Tryz.prog 173 #[] w (j8 w 1 1):=by
 go_in;go_wp2_with fail;refine(tY _ (1) ?_ ?_).mono ?_;(omega);(omega);rintro e i⟨c,d,f,c1,rfl,l,b⟩;have q1:=b.q1;have a:Blk i w.heap.size 194 #[.bool false,.slice none 0 0]:=(aj _ _ _ (by simp)).below b (by simp);have g:=(aa w).trans (q1.mono (aa w).size);have m:=b.l1;clear q1;have j:=a.c2;have h:=a.f2;have k:=fd a.lt;go_wp2_with fail;refine zr1 (.agg #[.bool c,.slice d f c1]) ?_;exact⟨c,d,f,c1,rfl,l.keep (((Kp.refl i).sb w.heap.size 0 a.box (by decide) (.bool c)).sb w.heap.size 1 (a.box.set ⟨w.heap.size,0,none⟩ (.bool c)) (by decide) (.slice d f c1)),((g.sc w.heap.size 0 (by omega) (.bool c)).sc w.heap.size 1 (by omega) (.slice d f c1))⟩
theorem vv(w:World)(b A n c z k)(h:IZ w b A n c z k)(b' A' n' c' z' k')(d:IZ w b' A' n' c' z' k')(s:Int)(f:dD z z'=s)(a:k+k'<=999999999):
 Calls Tryz.prog 171 #[.agg #[.bool b,.slice A n c],.agg #[.bool b',.slice A' n' c']] w (av w (.int .i64 s)):=by subst f;exact tZ w b A n c z k h b' A' n' c' z' k' d a

def gF(l:List Nat):Bool:=l != []&&last0 l
theorem Bp{l:List Nat}(h:l≠[]):gF l=last0 l:=by unfold gF;have:(l != [])=true:=F6.2 h;rw[this];rfl
theorem oh(w:World)(A:Option Addr)(n c:Nat)(l:List Nat)(v:Bool)(h:Wd w A n c l)(m:gF l=v)(B:n<=1000000000):
 Calls Tryz.prog 170 #[.slice A n c] w (av w (.bool v)):=by
 have b:=Qh h.2.1;have p:=Qh m;clear m;by_cases j:n=0
 ·subst j
  have i:l=[]:=lq b.out.symm;have f:=Qh (show v=false by rw[<-p.out,i];rfl);clear i;go_in;go_wp2;go_ret;exact cg f.out.symm (kz _ _)
 obtain⟨g,o,rfl,y,q⟩:=h.at2 (by omega);have u:=q (n-1) (by omega);have r:=h.lt (n-1);have a:l≠[]:=by rintro rfl;have:=b.out;simp at this;omega
 have k:v=(wd l (n-1) != 0):=by rw[<-p.out,Bp a];unfold last0;rw[<-b.out]
 have f:=Qh k;have z:0<n:=by omega
 clear q j k a;generalize d:wd l (n-1)=x at *;clear d;go_in;go_wp2;go_ret;refine cg ?_ (kz _ _);rw[f.out];by_cases hz:x=0
 ·subst hz;rfl
 have t:(x != 0)=true:=F6.2 hz;have s:((x:Int) != 0)=true:=F6.2 (by omega)
 first|rw[t,s]|simp[hz]
theorem EJ{w:World}{b:Bool}{A:Option Addr}{n c:Nat}{D:Option Addr}{m e:Nat}{a:RD}{k:Nat}(h:QD w b A n c D m e a k)(f:0<n\/0<m):a.ok=(gF a.num&&gF a.den&&Nat.gcd (val a.num) (val a.den)==1):=by
 unfold RD.ok gF;rw[kl (by intro x;rcases f with d|d;exact h.num_ne d x.1;exact h.den_ne_ d x.2)];cases (a.num != [])<;>cases (a.den != [])<;>cases (last0 a.num)<;>cases (last0 a.den)<;>simp
theorem qQ{l:List Nat}(h:gF l=true):WD.ok ⟨false,l⟩=true:=by
 unfold gF at h;have a:l≠[]:=by rintro rfl;exact absurd h (by decide)
 rw[yj a];exact((uv _ _).mp h).2
theorem vw(w:World)(b A n c D m e a k)(h:QD w b A n c D m e a k)(d:k<=300000000)(g:n=0)(f:m=0):
 Calls Tryz.prog 135 #[.agg #[.bool b,.slice A n c,.slice D m e]] w (av w (.bool a.ok)):=by
 have i:=Qh (show a.ok=!b from CG h g f);have j:=Qh d;subst g f;clear h d;go_in;go_wp2;go_ret;exact cg (by rw[i.out]) ((kz _ _).alloc Qr _)
theorem Bq(w:World)(b A n c D m e a k)(h:QD w b A n c D m e a k)(Q:k<=300000000):Calls Tryz.prog 135 #[.agg #[.bool b,.slice A n c,.slice D m e]] w (av w (.bool a.ok)):=by
 by_cases q:n=0/\m=0
 ·exact vw w b A n c D m e a k h Q q.1 q.2
 have p:=EJ h (by omega);have W:=h.2.2.2.1;have V:=h.2.2.2.2;obtain⟨u,t⟩:=Z9 (gF a.num);obtain⟨v,B⟩:=Z9 (gF a.den);rw[p,t,B];have L:=Qh t;have M:=Qh B;have H:=Qh h;clear p t B h;go_in;go_upto_region 1 with fail;refine dm ?_;intro E i;have f:Blk E w.heap.size 65 #[.bool b,.slice A n c,.slice D m e]:=by rw[i];exact Blk.new w _ _
 have d:Below w.heap.size w E:=by rw[i];exact(aa w).alloc Qr _
 clear i;have y:=f.v3;go_cut [12] (fun C I=>C=.bool false/\Blk I w.heap.size 65 #[.bool b,.slice A n c,.slice D m e]/\Below w.heap.size w I)
 case first =>
  rcases Nat.eq_zero_or_pos n with G|G
  ·have X:((n:Int)==0)=true:=by simp[G]
   have e2:((m:Int)==0)=false:=by simp;omega
   go_wp2_with fail;go_meet;exact⟨rfl,f,d⟩
  have X:((n:Int)==0)=false:=by simp;omega
  go_wp2_with fail;go_meet;exact⟨rfl,f,d⟩
 case rest =>
  clear f d y q;obtain⟨rfl,f,d⟩:=hcut;have y:=f.v3;go_wp2_with fail;(refine(oh _ A n c a.num u (H.out.2.1.belw d) L.out (by omega)).mono ?_);rintro e w3⟨rfl,l⟩;replace d:=d.trans (l.mono d.size);replace f:=f.b l;clear l y;cases u
  ·go_wp2
   go_ret;exact⟨rfl,d⟩
  have y:=f.v3;go_wp2_with fail;(refine(oh _ D m e a.den v (H.out.2.2.1.belw d) M.out (by omega)).mono ?_);rintro r Z⟨rfl,j⟩;replace d:=d.trans (j.mono d.size);replace f:=f.b j;clear j y;cases v
  ·go_wp2
   go_ret;exact⟨rfl,d⟩
  have N:=(H.out.num_z (qQ L.out)).belw d;have F:=(H.out.den_z (qQ M.out)).belw d;have y:=f.v3;go_wp2_with fail;(refine(ub _ false A n c _ k N false D m e _ k F (by omega)).mono ?_);rintro r w5⟨R,S,n9,P,rfl,z,o⟩;replace d:=d.trans (o.mono d.size);clear o y N F f;go_wp2_with fail;(refine(qP _).mono ?_);rintro r w6⟨Y,U,n8,O,rfl,T,g⟩;replace d:=d.trans (g.mono d.size);replace z:=z.belw g;clear g;obtain⟨s,K⟩:=Z9 (dD ((Nat.gcd ((val a.num:Int)).natAbs ((val a.den:Int)).natAbs:Nat)) 1);have J:=Qh K;clear K;go_wp2_with fail;(refine(vv _ R S n9 P _ (k+k) z.iz Y U n8 O 1 1 T.iz s J.out (by omega)).mono ?_);rintro r w7⟨rfl,x⟩;go_wp2;go_ret;exact cg (tV J.out rfl) (d.trans (x.mono d.size))

section
variable {w:World}{b:Bool}{A:Option Addr}{n c:Nat}{D:Option Addr}{m e:Nat}{a:RD}{k:Nat}
theorem CH(h:a.ok=false\/a.num=[]):a.q.num=0/\(a.q.den:Int)=1:=by
 have c:(a.ok&&a.num != [])=false:=by rcases h with h|h<;>simp[h]
 have b:a.q=0:=by unfold RD.q RD.n RD.d;rw[c];simp
 rw[b];exact⟨rfl,rfl⟩
theorem EK(h:Wds a.num)(hd:Wds a.den)(f:a.ok=true)(d:a.num≠[]):a.num=(wh a.q.num).mag/\a.neg=(wh a.q.num).neg/\a.den=(wh (a.q.den:Int)).mag:=by
 have b:=xw h hd f
 have g:a.q.num≠0:=by
  intro e;have:(rd a.q).num=[]:=by unfold rd;simp[e,ax]
  rw[b]at this;exact d this
 have c:(rd a.q).den=au a.q.den:=by unfold rd;simp[g]
 refine⟨?_,?_,?_⟩
 ·have:(rd a.q).num=au a.q.num.natAbs:=rfl
  rw[b]at this;exact this
 ·have:(rd a.q).neg=decide (a.q.num<0):=rfl
  rw[b]at this;exact this
 rw[b]at c;exact c
theorem yp(h:QD w b A n c D m e a k)(d:a.ok=true)(g:a.num≠[]):0<m:=by
 rcases Nat.eq_zero_or_pos m with f|f
 ·have i:a.den=[]:=lq (by rw[<-h.2.2.1.2.1,f])
  unfold RD.ok at d;rw[kl (by intro x;exact g x.1)]at d;simp[i]at d
 exact f
end
abbrev cV(G g2 g3:Nat)(v0 v1:Value)(W0 W:World):Prop:=((∀b o,b<G->b≠g2->b≠g3->W.cell? ⟨b,o,none⟩=W0.cell? ⟨b,o,none⟩)/\(∀b o,b<G->W.frozen? ⟨b,o,none⟩=W0.frozen? ⟨b,o,none⟩))/\G<=W.heap.size/\W.cell? ⟨g2,0,none⟩=some v0/\W.cell? ⟨g2,1,none⟩=some v1
theorem cV.of{G d l:Nat}{i f:Value}{a W:World}(h:G<=a.heap.size)(hb:Below a.heap.size a W)(g:d<a.heap.size)(k:a.cell? ⟨d,0,none⟩=some i)(j:a.cell? ⟨d,1,none⟩=some f):cV G d l i f a W :=
 ⟨⟨fun b o c _ _=>(dU hb).1 b o (Nat.lt_of_lt_of_le c h),fun b o c=>(dU hb).2 b o (Nat.lt_of_lt_of_le c h)⟩,Nat.le_trans h hb.size,((dU hb).1 _ _ g).trans k,((dU hb).1 _ _ g).trans j⟩
theorem jZ{w:World}{p:Addr}{u:Value}(v:Value)(h:w.cell? p=some u)(a:p.spot=none):(w.setCell p v).cell? p=some v:=by
 obtain⟨b,o,s⟩:=p;simp only at a;subst a;unfold World.cell? at h⊢;simp only[World.setCell,Hh,GY]at h⊢
 cases hh:w.heap[b]? with
 |none=>rw[hh]at h;simp at h
 |some ob =>
  rw[hh]at h;cases ob<;>simp_all;obtain⟨c,_⟩:=Array.getElem?_eq_some_iff.1 h;simp[c]
theorem cV.set2{G d l:Nat}{g f:Value}{j W:World}(h:cV G d l g f j W){i:Nat}{u:Value}(k:(i=0/\u=g)\/(i=1/\u=f)):cV G d l g f j (W.setCell ⟨d,i,none⟩ u):=by
 refine⟨⟨fun b o a c m=>?_,fun b o a=>?_⟩,?_,?_,?_⟩
 ·rw[<-h.1.1 b o a c m];unfold World.cell?;rw[so _ _ _ b c]
 ·rw[<-h.1.2 b o a];exact Hi ..
 ·have:=h.2.1;simp[World.setCell];exact this
 ·rcases k with⟨rfl,rfl⟩|⟨rfl,rfl⟩
  ·exact jZ _ h.2.2.1 rfl
  rw[GK _ _ _ _ (by simp)];exact h.2.2.1
 rcases k with⟨rfl,rfl⟩|⟨rfl,rfl⟩
 ·rw[GK _ _ _ _ (by simp)];exact h.2.2.2
 exact jZ _ h.2.2.2 rfl
theorem cV.set3{G d c:Nat}{l j:Value}{g W:World}(h:cV G d c l j g W){i:Nat}{u:Value}(m:d≠c):cV G d c l j g (W.setCell ⟨c,i,none⟩ u):=by
 refine⟨⟨fun b o a f k=>?_,fun b o a=>?_⟩,?_,?_,?_⟩
 ·rw[<-h.1.1 b o a f k];unfold World.cell?;rw[so _ _ _ b k]
 ·rw[<-h.1.2 b o a];exact Hi ..
 ·have:=h.2.1;simp[World.setCell];exact this
 ·rw[GK _ _ _ _ (by simp<;>omega)];exact h.2.2.1
 rw[GK _ _ _ _ (by simp<;>omega)];exact h.2.2.2
theorem ju(w:World)(b:Bool)(A:Option Addr)(n c:Nat)(D:Option Addr)(m e:Nat)(a:RD)(k:Nat)(v:Bool)(h:QD w b A n c D m e a k)(d:k<=300000000)(f:a.ok=v):
 Calls Tryz.prog 112 #[.agg #[.bool b,.slice A n c,.slice D m e]] w (av w (.bool v)):=by subst f;exact Bc w b A n c D m e a k h d
theorem B3.p2{W w:World}{a t0 f d:Nat}{c0 c1:Array Value}{g i:Value}(h:B3 W a t0 c0 f c1 d #[g,i] w)(c b:Value):B3 W a t0 c0 f c1 d #[c,b] ((w.setCell ⟨a+1+1,0,none⟩ c).setCell ⟨a+1+1,1,none⟩ b) :=
 ⟨(h.s.far (p:=⟨a+1+1,0,none⟩) (by show a≠a+1+1;omega) c).far (p:=⟨a+1+1,1,none⟩) (by show a≠a+1+1;omega) b,(h.t.far (p:=⟨a+1+1,0,none⟩) (by show a+1≠a+1+1;omega) c).far (p:=⟨a+1+1,1,none⟩) (by show a+1≠a+1+1;omega) b,(h.r.set_ 0 c).set_ 1 b,(h.q.setCell (p:=⟨a+1+1,0,none⟩) (by show a<=a+1+1;omega) c).setCell (p:=⟨a+1+1,1,none⟩) (by show a<=a+1+1;omega) b⟩
theorem oi(w:World)(b A n c D m e a k)(h:QD w b A n c D m e a k)(K:0<k)(z:k<=300000000)(p:a.ok=false\/n=0):Calls Tryz.prog 181 #[.agg #[.bool b,.slice A n c,.slice D m e]] w (oc w a.q.num a.q.den k):=by
 obtain⟨v,f⟩:=Z9 (a.ok);have o:a.q.num=0/\(a.q.den:Int)=1:=CH (p.imp id fun E=>lq (by rw[<-h.2.1.2.1,E]));rw[o.1,o.2];have u:v=true->((n:Int)==0)=true:=fun e=>by rcases p with h|h;rw[h]at f;rw[<-f]at e;cases e;simp[h]
 have G:=Qh f;have H:=Qh h;clear o f p h;go_in;go_upto_region 1 with fail;refine dm ?_;intro x g;have d:B3 w w.heap.size 65 #[.bool b,.slice A n c,.slice D m e] 194 #[.bool false,.slice none 0 0] 194 #[.bool false,.slice none 0 0] x:=by rw[g];exact⟨((Blk.new w _ _).alloc _).alloc _,(aj _ _ _ (by simp)).alloc _,aj _ _ _ (by simp),(((aa w).alloc Qr _).alloc (by simp) _).alloc (by simp<;>omega) _⟩
 clear g;have y:=d.s.v3;go_wp2_with fail;(refine(ju _ b A n c D m e a k v (H.out.belw d.q) z G.out).mono ?_);rintro e M⟨rfl,i⟩;replace d:=d.call i;clear i y;have y:=d.s.v3;have key:∀ {P:Prop},(v=false->P)->(v=true->((n:Int)==0)=true->P)->P:=fun B l=>by cases v;exact B rfl;exact l rfl (u rfl)
 clear u;refine key (fun f=>?_) (fun f L=>?_)
 all_goals
  subst f;go_wp2_with fail;(refine(tW _).mono ?_);rintro e J⟨C,F,I,c2,rfl,l,j⟩;replace d:=d.call j;clear j y;have y:=And.intro d.t.v2 d.r.v2;go_wp2_with fail;refine zr1 (.tuple #[.agg #[.bool false,.slice none 0 0],.agg #[.bool C,.slice F I c2]]) ?_;have k2:=d.p1 (.bool false) (.slice none 0 0);exact⟨_,_,_,_,_,_,_,_,rfl,IV.zero _ _,(l.keep ((d.t.k2 (by decide) _ _).trans (k2.r.k2 (by decide) _ _))).mono (by omega),(k2.p2 _ _).q⟩
theorem vx(w:World)(b A n c D m e a k)(h:QD w b A n c D m e a k)(h0:0<k)(hk:k<=300000000)(ho:a.ok=true)(hn:a.num≠[]):
 Calls Tryz.prog 181 #[.agg #[.bool b,.slice A n c,.slice D m e]] w (oc w a.q.num a.q.den k):=by
 have HK:=Qh hk;have HO:=Qh ho;obtain⟨e1,e2,e3⟩:=EK h.2.1.1 h.2.2.1.1 ho hn;have HE:=Qh (And.intro e1 (And.intro e2 e3));have bg:0<n:=by rcases Nat.eq_zero_or_pos n with h1|h1;exact absurd (lq (by rw[<-h.2.1.2.1,h1])) hn;exact h1
 have bo:0<m:=yp h ho hn;have en:((n:Int)==0)=false:=by simp;omega
 have b4:n<=300000000:=Nat.le_trans h.2.2.2.1 hk;have b8:m<=300000000:=Nat.le_trans h.2.2.2.2 hk;obtain⟨i0,a6,aF,a8,a5⟩:=Gb fe;obtain⟨gA,oA,eA,b7,_⟩:=h.2.1.at2 bg;obtain⟨gD,oD,eD,b5,_⟩:=h.2.2.1.at2 bo;subst eA eD;clear ho hn e1 e2 e3 hk;go_in;go_wp2_with fail;refine(ju _ b (some ⟨gA,oA,none⟩) n c (some ⟨gD,oD,none⟩) m e a k true ?_ ?_ ?_).mono ?_;(exact h.belw (((((kz _ _).alloc Qr _).alloc (by simp) _).alloc (by simp<;>omega) _)));(exact HK.out);(exact HO.out);rintro e T⟨rfl,V⟩;have q1:=V.q3;replace h:=h.belw q1;have p:Blk T w.heap.size 65 #[.bool b,.slice (some ⟨gA,oA,none⟩) n c,.slice (some ⟨gD,oD,none⟩) m e]:=(((aj _ _ _ (by simp)).alloc _).alloc _).below V (by simp<;>omega);have G:=((aj _ _ _ (g:=w.heap.size+1) (by simp)).alloc _).below V (by simp<;>omega);have l:=(aj _ _ _ (g:=w.heap.size+1+1) (by simp)).below V (by simp);have a1:=(aa w).trans (q1.mono (aa w).size);have ca:=V.l3;clear q1;obtain⟨H,z,J⟩:=p.c3;obtain⟨L,O,K,M⟩:=fd p.lt;have ao:=G.c2;have aZ:=G.f2;have a4:=kn G.lt;obtain⟨I,B⟩:=l.c2;obtain⟨F,y⟩:=l.f2;obtain⟨E,N,C,u⟩:=uZ l.lt;go_wp2_with fail;have o:=F4 (e:=58) (size:=1) T #[] 0 Qr (by simp[maxLen]) rfl;have S:=((h.2.1).keep ((Kp.refl T).alloc (.cells #[] 58))).news (by omega) Qr;have Y:(bA (a.num.take n)).length=n*1:=by rw[dx,vq];have:=(h.2.1).2.1;omega
 have ac:=Qh o;have aT:=Qh S;have X:=Qh Y;clear o S Y;have a3:¬w.heap.size=w.heap.size+1:=by omega
 have an:¬w.heap.size+1+1=w.heap.size+1:=by omega
 have bk:¬T.heap.size=w.heap.size+1:=by have:=G.lt;omega
 go_region_held3 (fun w'=>SeesX T.heap.size (w.heap.size+1) T w') (first|exact SeesX.of Qr (af (aa _) 1)|exact SeesX.of Qr ((af (aa _) 1).alloc Qr _)|exact SeesX.of Qr (((aa _).alloc Qr _).drew)|exact SeesX.of Qr (by assumption)|exact SeesX.set (SeesX.of Qr (by assumption))|exact SeesX.set (SeesX.set (SeesX.of Qr (by assumption)))) ((refine step_append_lies _ rfl _ _ _ rfl T.heap.size 58 i0 (.int .u32 0) 1 4 Tryz.underlying63 a6 aF a8 a5 rfl (by omega) _ 0 [] rfl (by first|exact ac.out|exact ac.out.drew) ⟨gA,oA,none⟩ n c (bA (a.num.take n)) rfl X.out aT.out (gU _) (by omega) (by unfold maxLen;omega) (by omega) (by simp) (T.heap.size+1) (by simp) ?_;intro r d W o P aS b1;have qa:Below T.heap.size T W:=(((kz _ _).alloc Qr _).drew).grown P (by simp) (fun b hb=>Nat.le_of_eq (F5 hb));have s:Blk W (w.heap.size+1) 194 #[.bool false,.slice none 0 0]:=G.below qa G.lt;obtain⟨a9,a0⟩:=s.c2;obtain⟨a2,aC⟩:=s.f2));simp only[Nat.zero_add,Gf]at o
 have U:Wd W (some ⟨r,0,none⟩) n d a.num:=by
  have x:=Wd.of_own o (Wds.take (h.2.1).1 n);rwa[ms (Nat.le_of_eq (h.2.1).2.1.symm)]at x
 clear o P aS ac aT X;clear H z J L O K M ao aZ a4 I F B y E N C u;clear a9 a0 a2 aC bk a3 an;replace p:=p.b qa;replace l:=l.b qa;replace h:=h.belw qa;have bs:Below w.heap.size w W:=a1.trans (qa.mono a1.size);have b9:T.heap.size<=W.heap.size:=qa.size;clear G;go_wp2_with fail;have p5:=(((Kp.refl W).sb (w.heap.size+1) 0 s.box (by decide) (.bool b)).sb (w.heap.size+1) 1 (s.box.set ⟨w.heap.size+1,0,none⟩ (.bool b)) (by decide) (.slice (some ⟨r,0,none⟩) n d));have ad:=((bs.sc (w.heap.size+1) 0 (by omega) (.bool b)).sc (w.heap.size+1) 1 (by omega) (.slice (some ⟨r,0,none⟩) n d));replace p:=((p.fr (w.heap.size+1) 0 (by omega) (.bool b)).fr (w.heap.size+1) 1 (by omega) (.slice (some ⟨r,0,none⟩) n d));replace s:Blk ((W.setCell ⟨w.heap.size+1,0,none⟩ (.bool b)).setCell ⟨w.heap.size+1,1,none⟩ (.slice (some ⟨r,0,none⟩) n d)) (w.heap.size+1) 194 #[.bool b,.slice (some ⟨r,0,none⟩) n d]:=((s.set_at 0 (.bool b) #[.bool b,.slice none 0 0] (by simp)).set_at 1 (.slice (some ⟨r,0,none⟩) n d) #[.bool b,.slice (some ⟨r,0,none⟩) n d] (by simp));replace l:=((l.fr (w.heap.size+1) 0 (by omega) (.bool b)).fr (w.heap.size+1) 1 (by omega) (.slice (some ⟨r,0,none⟩) n d));have br:W.heap.size+0<=((W.setCell ⟨w.heap.size+1,0,none⟩ (.bool b)).setCell ⟨w.heap.size+1,1,none⟩ (.slice (some ⟨r,0,none⟩) n d)).heap.size:=by simp
 generalize bb:((W.setCell ⟨w.heap.size+1,0,none⟩ (.bool b)).setCell ⟨w.heap.size+1,1,none⟩ (.slice (some ⟨r,0,none⟩) n d))=w5 at p5 ad br p s l⊢;clear bb;replace h:=h.keep p5;replace U:=U.keep p5;obtain⟨H,z,J⟩:=p.c3;obtain⟨L,O,K,M⟩:=fd p.lt;obtain⟨f,i⟩:=s.c2;have bu:=s.f2;have bd:=kn s.lt;obtain⟨I,B⟩:=l.c2;obtain⟨F,y⟩:=l.f2;obtain⟨E,N,C,u⟩:=uZ l.lt;have j:=F4 (e:=58) (size:=1) w5 #[] 0 Qr (by simp[maxLen]) rfl;have Q:=((h.2.2.1).keep ((Kp.refl w5).alloc (.cells #[] 58))).news (by omega) Qr;have ab:(bA (a.den.take m)).length=m*1:=by rw[dx,vq];have:=(h.2.2.1).2.1;omega
 have al:=Qh j;have a7:=Qh Q;have Z:=Qh ab;clear j Q ab;have a3:¬w.heap.size=w.heap.size+1:=by omega
 have b6:¬w.heap.size=w.heap.size+2:=by omega
 have an:¬w.heap.size+1=w.heap.size+1+1:=by omega
 have bn:¬w.heap.size=w.heap.size+1:=by omega
 clear bn;go_region_held3 (fun w'=>cV w5.heap.size (w.heap.size+1) (w.heap.size+1+1) (.bool b) (.slice (some ⟨r,0,none⟩) n d) w5 w') (first|with_reducible exact cV.of Qr ((aa _).drew) s.lt f i|with_reducible exact cV.of Qr (((aa _).alloc Qr _).drew) s.lt f i|with_reducible exact cV.of Qr (by assumption) s.lt f i|with_reducible exact(cV.set2 (cV.of Qr (by assumption) s.lt f i) (.inl ⟨rfl,rfl⟩))|with_reducible exact(cV.set2 (cV.set2 (cV.of Qr (by assumption) s.lt f i) (.inl ⟨rfl,rfl⟩)) (.inr ⟨rfl,rfl⟩))|with_reducible exact(cV.set3 (cV.set2 (cV.set2 (cV.of Qr (by assumption) s.lt f i) (.inl ⟨rfl,rfl⟩)) (.inr ⟨rfl,rfl⟩)) (by omega))|with_reducible exact(cV.set3 (cV.set3 (cV.set2 (cV.set2 (cV.of Qr (by assumption) s.lt f i) (.inl ⟨rfl,rfl⟩)) (.inr ⟨rfl,rfl⟩)) (by omega)) (by omega))) ((refine step_append_lies _ rfl _ _ _ rfl w5.heap.size 58 i0 (.int .u32 0) 1 4 Tryz.underlying63 a6 aF a8 a5 rfl (by omega) _ 0 [] rfl (by first|exact al.out|exact al.out.drew) ⟨gD,oD,none⟩ m e (bA (a.den.take m)) rfl Z.out a7.out (gU _) (by omega) (by unfold maxLen;omega) (by omega) (by simp) (w5.heap.size+1) (by simp) ?_;intro gd t vd j R ba b2;have qd:Below w5.heap.size w5 vd:=(((kz _ _).alloc Qr _).drew).grown R (by simp) (fun b hb=>Nat.le_of_eq (F5 hb));have z1:Blk vd (w.heap.size+1) 194 #[.bool b,.slice (some ⟨r,0,none⟩) n d]:=s.below qd s.lt;obtain⟨bY,bv⟩:=z1.c2;obtain⟨bw,b3⟩:=z1.f2;have z2:Blk vd (w.heap.size+1+1) 194 #[.bool false,.slice none 0 0]:=l.below qd l.lt;obtain⟨bz,bx⟩:=z2.c2;obtain⟨b0,bF⟩:=z2.f2));simp only[Nat.zero_add,Gf]at j
 have be:Wd vd (some ⟨gd,0,none⟩) m t a.den:=by
  have x:=Wd.of_own j (Wds.take (h.2.2.1).1 m);rwa[ms (Nat.le_of_eq (h.2.2.1).2.1.symm)]at x
 clear j R ba al a7 Z;clear H z J L O K M f bu i bd I F B y E N C u;replace p:=p.b qd;replace U:=U.belw qd;have bl:Below w.heap.size w vd:=ad.trans (qd.mono ad.size);have cb:w5.heap.size<=vd.heap.size:=qd.size;go_wp2_with fail;refine zr1 (.tuple #[.agg #[.bool b,.slice (some ⟨r,0,none⟩) n d],.agg #[.bool false,.slice (some ⟨gd,0,none⟩) m t]]) ?_;have kp:=(((((Kp.refl vd).sb (w.heap.size+1) 0 z1.box (by decide) (.bool b)).sb (w.heap.size+1) 1 (z1.box.set ⟨w.heap.size+1,0,none⟩ (.bool b)) (by decide) (.slice (some ⟨r,0,none⟩) n d)).sb (w.heap.size+1+1) 0 ((z2.box.set ⟨w.heap.size+1,0,none⟩ (.bool b)).set ⟨w.heap.size+1,1,none⟩ (.slice (some ⟨r,0,none⟩) n d)) (by decide) (.bool false)).sb (w.heap.size+1+1) 1 (((z2.box.set ⟨w.heap.size+1,0,none⟩ (.bool b)).set ⟨w.heap.size+1,1,none⟩ (.slice (some ⟨r,0,none⟩) n d)).set ⟨w.heap.size+1+1,0,none⟩ (.bool false)) (by decide) (.slice (some ⟨gd,0,none⟩) m t));exact⟨b,some ⟨r,0,none⟩,n,d,false,some ⟨gd,0,none⟩,m,t,rfl,⟨h.1.symm.trans HE.out.2.1,HE.out.1 ▸ U.keep kp,h.2.2.2.1⟩,⟨by simp[wh],HE.out.2.2 ▸ be.keep kp,h.2.2.2.2⟩,((((bl.sc (w.heap.size+1) 0 (by omega) (.bool b)).sc (w.heap.size+1) 1 (by omega) (.slice (some ⟨r,0,none⟩) n d)).sc (w.heap.size+1+1) 0 (by omega) (.bool false)).sc (w.heap.size+1+1) 1 (by omega) (.slice (some ⟨gd,0,none⟩) m t))⟩
theorem jw(w:World)(b A n c D m e q k)(h:QZ w b A n c D m e q k)(f:0<k)(d:k<=300000000):
 Calls Tryz.prog 181 #[.agg #[.bool b,.slice A n c,.slice D m e]] w (oc w q.num q.den k):=by
 obtain⟨a,h,rfl⟩:=h;cases ho:a.ok
 ·exact oi w b A n c D m e a k h f d (.inl ho)
 by_cases hn:n=0
 ·exact oi w b A n c D m e a k h f d (.inr hn)
 exact vx w b A n c D m e a k h f d ho (h.num_ne (by omega))
theorem Dj(w:World)(b A n c z k)(h:IZ w b A n c z k)(b' A' n' c' z' k')(r:IZ w b' A' n' c' z' k')(q:Rat)(K:Nat)(hd:z'≠0)(G:Rat.divInt z z'=q)(J:Sz q K)(V:k+k'<=300000000):
 Calls Tryz.prog 191 #[.agg #[.bool b,.slice A n c],.agg #[.bool b',.slice A' n' c']] w (fg w .nilIface q K):=by
 obtain⟨s,p⟩:=Z9 (z'.sign);have U:((s:Int)==0)=false:=by simp;rintro rfl;exact hd (Gy.1 p)
 have E:=Qh p;have T:=Qh hd;have O:=Qh G;have Q:=Qh J;clear p hd G J;go_in;go_wp2_with fail;refine(iO _ b' A' n' c' (z') (k') ?_ s ?_ ?_).mono ?_;(exact(r.belw ((((kz _ _).alloc Qr _).alloc (by simp) _).alloc (by simp<;>omega) _)));(exact E.out);(omega);rintro e M⟨rfl,d⟩;have q1:=d.q3;replace h:=h.belw q1;replace r:=r.belw q1;have m:Blk M w.heap.size 194 #[.bool b,.slice A n c]:=(((aj _ _ _ (by simp)).alloc _).alloc _).below d (by simp<;>omega);have l:=((aj _ _ _ (g:=w.heap.size+1) (by simp)).alloc _).below d (by simp<;>omega);have a:=(aj _ _ _ (g:=w.heap.size+1+1) (by simp)).below d (by simp);have o:=(aa w).trans (q1.mono (aa w).size);have P:=d.l3;clear q1;have y:=m.c2;have C:=fd m.lt;have u:=l.c2;have x:=kn l.lt;go_wp2_with fail;refine(yi _ b A n c (z) (k) ?_ b' A' n' c' (z') (k') ?_ q K ?_ ?_ ?_ ?_).mono ?_;(exact h);(exact r);(exact T.out);(exact O.out);(exact Q.out);(omega);rintro e S⟨t,B,D,c2,f,j,i,rfl,N,q2⟩;clear y C u x;replace h:=h.belw q2;replace r:=r.belw q2;replace m:=m.b q2;replace l:=l.b q2;replace a:=a.b q2;have F:=o.trans (q2.mono o.size);have R:=q2.size;clear q2 o;have H:=a.c3;have L:=a.f3;have I:=uZ a.lt;go_wp2_with fail;refine zr1 (.tuple #[.agg #[.bool t,.slice B D c2,.slice f j i],.nilIface]) ?_;exact⟨t,B,D,c2,f,j,i,rfl,N.keep ((((Kp.refl S).sb (w.heap.size+1+1) 0 a.box (by decide) (.bool t)).sb (w.heap.size+1+1) 1 (a.box.set ⟨w.heap.size+1+1,0,none⟩ (.bool t)) (by decide) (.slice B D c2)).sb (w.heap.size+1+1) 2 ((a.box.set ⟨w.heap.size+1+1,0,none⟩ (.bool t)).set ⟨w.heap.size+1+1,1,none⟩ (.slice B D c2)) (by decide) (.slice f j i)),(((F.sc (w.heap.size+1+1) 0 (by omega) (.bool t)).sc (w.heap.size+1+1) 1 (by omega) (.slice B D c2)).sc (w.heap.size+1+1) 2 (by omega) (.slice f j i))⟩
end Go.Proofs.YtfilnhompchciaaGreatDoor
namespace Bn
structure TN where
  t:Rat
  h:Bool
deriving DecidableEq
/-! ### order -/
def lL(a b:Rat):Int:=if a<b then -1 else if a=b then 0 else 1
theorem cH{a b:Rat}:lL a b=0 ↔ a=b:=by
 unfold lL;split
 ·grind
 split
 ·simpa
 simpa
end Bn

/- A region that draws its order, walked operation by operation: what each one leaves stays true. -/
namespace Go.Proofs.YtfilnhompchciaaGreatDoor
open Go Go.RowKit Bn
attribute [local go_sem ↓] Go.wp_at_zero Go.wp_at_succ

theorem kC{l:List Bool}{i:Nat}(h:l[i]?=some false):(l.set i true).count false+1=l.count false:=by
 induction l generalizing i with
 |nil=>simp at h
 |cons b l ih =>
  cases i with
  |zero=>simp at h;subst h;simp
  |succ i =>
   simp only[List.getElem?_cons_succ]at h;have:=ih h;simp only[List.set_cons_succ,List.count_cons];omega
section
variable {P:Program}{ops:Array Oper}{Q:Exit->Act->World->Prop}{md:Region.Mode}
theorem oj{L:Array Bool}{i:Nat}(h:i∈Region.ready md ops L):L.toList[i]?=some false:=by
 have a:=(GL.1 h).1;rcases Nat.lt_or_ge i L.size with b|b
 ·rw[pn,sr b]at a
  simp only[Hl]at a;rw[Array.getElem?_toList,sr b,a]
 rw[pn,zP b]at a;cases a
theorem fJ(A:Array Bool->Act->World->Prop)
 (c:∀L a w i,L.size=ops.size->i∈Region.ready md ops L->A L a w->wpOp P ops Q i (A (L.setIfInBounds i true)) a w)
 (b:∀L a w,L.size=ops.size->Region.ready md ops L=[]->A L a w->Q .normal a w) :
 ∀(fuel:Nat) (L:Array Bool) (a:Act) (w:World),L.size=ops.size->L.toList.count false<=fuel->A L a w->wpAny P md ops Q fuel L a w:=by
 intro fuel
 induction fuel with
 |zero =>
  intro L a w f m g
  have d:Region.ready md ops L=[]:=by
   cases d:Region.ready md ops L with
   |nil=>rfl
   |cons i r =>
    have l:=oj (md:=md) (ops:=ops) (L:=L) (i:=i) (by rw[d];simp);have j:=kC l;omega
  exact⟨d,b L a w f d g⟩
 |succ fuel ih =>
  intro L a w f m g;refine⟨fun d=>b L a w f d g,fun i h=>wpOp_mono (fun o n k=>ih _ _ _ (by simpa using f) ?_ k) (c L a w i f h g)⟩;have j:=kC (oj h);rw[Hy];omega
end
def cN(w:World)(g:Nat):Nat->List Value->World
  |_,[]=>w
  |i,u::us=>cN (w.setCell ⟨g,i,none⟩ u) g (i+1) us
def vy(c:Array Value):Nat->List Value->Array Value
  |_,[]=>c
  |i,u::us=>vy (c.setIfInBounds i u) (i+1) us
section
variable {g:Nat}{t:TypeId}
theorem pw{g':Nat}(b:g'≠g):∀(a:List Value) (i:Nat) (w:World),(cN w g i a).heap[g']?=w.heap[g']?:=by
 intro a
 induction a with
 |nil=>intro i w;rfl
 |cons u a ih=>intro i w;exact(ih (i+1) _).trans (so w ⟨g,i,none⟩ u g' b)
theorem mu(b:KT t=false)(a:List Value)(i:Nat)(w:World)(c:Array Value)(d:noU c=true)(h:Blk w g t c):Kp w (cN w g i a) :=
 fun _ _ _ x=>x.same (pw (x.ne h b d) a i w)
theorem gc:∀(a:List Value) (i:Nat) (w:World) (c:Array Value),Blk w g t c->Blk (cN w g i a) g t (vy c i a):=by
 intro a
 induction a with
 |nil=>intro i w c h;exact h
 |cons u a ih=>intro i w c h;exact ih (i+1) _ _ (h.set_ i u)
theorem cW{g':Nat}{b:TypeId}{c:Array Value}(d:g'≠g):∀(a:List Value) (i:Nat) (w:World),Blk w g' b c->Blk (cN w g i a) g' b c:=by
 intro a
 induction a with
 |nil=>intro i w h;exact h
 |cons u a ih=>intro i w h;exact ih (i+1) _ (h.far d u)
theorem dh{B:Nat}{a:World}(c:B<=g):∀(b:List Value) (i:Nat) (w:World),Below B a w->Below B a (cN w g i b):=by
 intro b
 induction b with
 |nil=>intro i w h;exact h
 |cons u b ih=>intro i w h;exact ih (i+1) _ (h.setCell (p:=⟨g,i,none⟩) c u)
end
theorem fB{g:Nat}:∀(a:List Value) (i:Nat) (w:World),(cN w g i a).heap.size=w.heap.size:=by
 intro a
 induction a with
 |nil=>intro i w;rfl
 |cons u a ih=>intro i w;rw[cN,ih];simp[World.setCell]
structure Flt where
  a:Nat
  s:Nat
  T:TypeId
  Z:Array Value
  PS:Array Value->World->Prop
  [hZ:NoU Z]
structure Own where
  g:Nat
  s:Nat
  o:Nat
  T:TypeId
  Z:Array Value
  PS:Array Value->World->Prop
  [hZ:NoU Z]
def upd(x:Nat->Value)(i:Nat)(v:Value):Nat->Value:=fun j=>if j=i then v else x j
theorem db(x:Nat->Value)(i:Nat)(v:Value):upd x i v i=v:=by simp[upd]
theorem aN(x:Nat->Value){i j:Nat}(v:Value)(h:j≠i):upd x i v j=x j:=by simp[upd,h]

def FG(ops:Array Oper)(fr:(Nat->Value)->Act)(R:Nat->Value->World->Prop)(es:List Flt)(ow:List Own)(B:Nat)(W:World)(L:Array Bool)(a:Act)(w:World):Prop :=
  ∃x,a=fr x/\(Kp W w/\Below B W w)/\(∀i,L.getD i false=true->R i (x i) w) /\
  (∀i o,ops[i]?=some o->L.getD i false=true->∀e∈o.after,Region.binds .any e=true->L.getD e.on false=true) /\
  (∀f∈es,L.getD f.a false=true->∃g c,x f.a=.pointer (some ⟨g,0,none⟩)/\W.heap.size<=g/\Blk w g f.T c/\(L.getD f.s false=false->c=f.Z)/\(L.getD f.s false=true->f.PS c w)) /\
  (∀f∈es,∀f'∈es,f.a≠f'.a->L.getD f.a false=true->L.getD f'.a false=true->x f.a≠x f'.a) /\
  (∀f∈ow,∃c,Blk w f.g f.T c/\(L.getD f.s false=false->c=f.Z)/\(L.getD f.s false=true->f.PS c w))

section
variable (P:Program) (ops:Array Oper) (Q:Exit->Act->World->Prop) (fr:(Nat->Value)->Act) (R:Nat->Value->World->Prop) (es:List Flt) (ow:List Own) (B:Nat) (W:World)
def Br(i:Nat)(o:Oper):Prop:=(∀f∈es,i≠f.a/\i≠f.s)/\(∀f∈ow,i≠f.s) /\
  ∀ x w,Kp W w->(∀f∈ow,(∀o',ops[f.s]?=some o'->∃e∈o'.after,Region.binds .any e=true/\e.on=i)->Blk w f.g f.T f.Z)->(∀e∈o.after,Region.binds .any e=true->R e.on (x e.on) w)->∀K':Act->World->Prop,Shut (∀v w',R i v w'->Below w.heap.size w w'->K' ((fr x).put o.dst v) w') ->
    if Region.wanted o (yielded ops (fr x).tmps)=true then Oper.wp P o (fr x) w K' Q else K' ((fr x).put o.dst undef) w
def vz(i:Nat)(o:Oper):Prop:=∃f∈es,i=f.a/\(∀f'∈es,i≠f'.s)/\(∀f'∈ow,i≠f'.s)/\(∀f'∈es,f'.a=i->f'=f)/\(∀v w,R i v w) /\
  ∀ x w,∀K':Act->World->Prop,Shut (K' ((fr x).put o.dst (.pointer (some ⟨w.heap.size,0,none⟩))) (w.alloc (.cells f.Z f.T))) ->
    if Region.wanted o (yielded ops (fr x).tmps)=true then Oper.wp P o (fr x) w K' Q else K' ((fr x).put o.dst undef) w
def vA(i:Nat)(o:Oper):Prop:=∃f∈es,i=f.s/\(∀f'∈es,i≠f'.a)/\(∀f'∈ow,i≠f'.s)/\(∀f'∈es,f'.s=i->f'=f)/\(∀f'∈es,f'.a=f.a->f'=f)/\KT f.T=false/\(∀v w,R i v w)/\(∃e∈o.after,Region.binds .any e=true/\e.on=f.a) /\
  ∀ x w g,x f.a=.pointer (some ⟨g,0,none⟩)->Blk w g f.T f.Z->(∀e∈o.after,Region.binds .any e=true->R e.on (x e.on) w) ->
    ∃ us,(∀w',Kp w w'->f.PS (vy f.Z 0 us) w')/\∀K':Act->World->Prop,Shut (∀v,K' ((fr x).put o.dst v) (cN w g 0 us)) ->
      if Region.wanted o (yielded ops (fr x).tmps)=true then Oper.wp P o (fr x) w K' Q else K' ((fr x).put o.dst undef) w
def Bt(i:Nat)(o:Oper):Prop:=∃f∈ow,i=f.s/\(∀f'∈es,i≠f'.a/\i≠f'.s)/\(∀f'∈ow,f'.s=i->f'=f)/\KT f.T=false/\(∀v w,R i v w) /\
  ∀ x w,Blk w f.g f.T f.Z->(∀e∈o.after,Region.binds .any e=true->R e.on (x e.on) w) ->
    ∃ us,(∀w',Kp w w'->f.PS (vy f.Z f.o us) w')/\∀K':Act->World->Prop,Shut (∀v,K' ((fr x).put o.dst v) (cN w f.g f.o us)) ->
      if Region.wanted o (yielded ops (fr x).tmps)=true then Oper.wp P o (fr x) w K' Q else K' ((fr x).put o.dst undef) w
end
theorem ak{L:Array Bool}{i j:Nat}(a:i<L.size):(L.setIfInBounds i true).getD j false=(decide (j=i)||L.getD j false):=by
 rw[pn,pn,Array.getElem?_setIfInBounds];by_cases h:i=j
 ·subst h;simp[a]
 rw[kl h];simp[show ¬j=i from fun e=>h e.symm]
section
variable {P:Program}{ops:Array Oper}{Q:Exit->Act->World->Prop}{fr:(Nat->Value)->Act}{R:Nat->Value->World->Prop}{es:List Flt}{ow:List Own}{B:Nat}
theorem nH{id:Nat}{w:World}{x0:Nat->Value}(hm:P.follows .mixedOrders=true)
 (U:∀i o,ops[i]?=some o->∀x v,(fr x).put o.dst v=fr (upd x i v))
 (bv:∀i o,ops[i]?=some o->∀e∈o.after,Region.binds .any e=true->e.on<i)
 (hR:∀i v w q,R i v w->Kp w q->R i v q)
 (aT:∀f∈es,∀c w q,f.PS c w->Kp w q->f.PS c q)
 (bd:∀f∈ow,∀c w q,f.PS c w->Kp w q->f.PS c q)
 (ac:∀f∈es,f.a<ops.size/\f.s<ops.size)
 (hB:B<=w.heap.size)
 (hO:∀f∈ow,Blk w f.g f.T f.Z/\B<=f.g)
 (br:∀f∈ow,∀l∈ow,f.g=l.g->f=l)
 (ad:∀i o,ops[i]?=some o->Br P ops Q fr R es ow w i o\/vz P ops Q fr R es ow i o\/vA P ops Q fr R es ow i o\/Bt P ops Q fr R es ow i o)
 (bb:∀x q,Kp w q->Below B w q->w.heap.size<=q.heap.size->(∀f∈ow,∃c,Blk q f.g f.T c/\(ops.size<=f.s->c=f.Z)/\(f.s<ops.size->f.PS c q))->(∀i,i<ops.size->R i (x i) q)->(∀f∈es,∃g c,x f.a=.pointer (some ⟨g,0,none⟩)/\w.heap.size<=g/\Blk q g f.T c/\f.PS c q)->(∀f∈es,∀l∈es,f.a≠l.a->x f.a≠x l.a)->Q .normal (fr x) q) :
 (Code.region id ops true).wp P Q (fr x0) w:=by
 refine Hc hm (fJ (fun L a q=>w.heap.size<=q.heap.size/\FG ops fr R es ow B w L a q) ?_ ?_ _ _ _ _ (by simp) ?_ ?_)
 ·rintro L a n i hs hi⟨E,x,rfl,⟨N,hb⟩,hr,a0,hf,hd,X⟩
  obtain⟨aZ,o,ho,al⟩:=GL.1 hi
  have d:i<L.size:=by
   rcases Nat.lt_or_ge i L.size with h|h
   ·exact h
   rw[pn,zP h]at aZ;cases aZ
  have G:L.getD i false=false:=by
   rw[pn,sr d]at aZ⊢;exact aZ
  have an:∀e∈o.after,Region.binds .any e=true->R e.on (x e.on) n:=fun e he C=>hr _ (al e he C)
  have O:∀i' Y,ops[i']?=some Y->(L.setIfInBounds i true).getD i' false=true->∀e∈Y.after,Region.binds .any e=true->(L.setIfInBounds i true).getD e.on false=true:=by
   intro i' Y H hl e he C;rw[ak d]at hl⊢;by_cases h:i'=i
   ·subst h;rw[ho]at H;injection H with H;subst H
    rw[al e he C];simp
   have:L.getD i' false=true:=by simpa[h]using hl
   rw[a0 i' Y H this e he C];simp
  refine Ik ho fun K' hK=>?_
  have a7:∀f∈ow,(∀Y,ops[f.s]?=some Y->∃e∈Y.after,Region.binds .any e=true/\e.on=i)->Blk n f.g f.T f.Z:=by
   intro f p bn;obtain⟨c,c1,c2,_⟩:=X f p
   have:L.getD f.s false=false:=by
    cases h:L.getD f.s false
    ·rfl
    exfalso
    have a2:f.s<ops.size:=by
     rcases Nat.lt_or_ge f.s L.size with u|u
     ·omega
     rw[pn,zP u]at h;cases h
    obtain⟨e,he,C,ao⟩:=bn _ (sr a2);have:=a0 f.s _ (sr a2) h e he C;rw[ao,G]at this;cases this
   rw[<-c2 this];exact c1
  have aF:∀q,Kp n q->(∀g t c,Blk n g t c->(∃f∈ow,f.g=g)->Blk q g t c)->(∀f∈ow,i≠f.s)->∀f∈ow,∃c,Blk q f.g f.T c/\((L.setIfInBounds i true).getD f.s false=false->c=f.Z)/\((L.setIfInBounds i true).getD f.s false=true->f.PS c q):=by
   intro q m bo A f p;obtain⟨c,c1,c2,c3⟩:=X f p;have I:=A f p;refine⟨c,bo _ _ _ c1 ⟨f,p,rfl⟩,fun h=>c2 ?_,fun h=>bd f p _ _ _ (c3 ?_) m⟩
   ·rw[ak d]at h;simpa[Gn I]using h
   rw[ak d]at h;simpa[Gn I]using h
  rcases ad i o ho with⟨W,F,hv⟩|⟨f,y,rfl,a1,F,D,ab,hv⟩|⟨f,y,rfl,a9,F,D,aS,hT,ab,⟨e,he,C,ao⟩,hv⟩|⟨f,y,rfl,a3,D,hT,ab,hv⟩
  ·refine hv x n N a7 an K' (fun v q bu aC=>hK _ _ ?_)
   have m:Kp n q:=(Kp.refl n).below aC;refine⟨Nat.le_trans E aC.size,upd x i v,U i o ho x v,⟨N.trans m,hb.trans (aC.mono (Nat.le_trans hB E))⟩,fun j hj=>?_,O,fun f b z=>?_,fun f b l k A S u=>?_,aF q m (fun g t c h _=>h.below aC h.lt) F⟩
   ·by_cases h:j=i
    ·subst h;rw[db];exact bu
    rw[aN _ _ h];rw[ak d]at hj;exact hR _ _ _ _ (hr j (by simpa[h]using hj)) m
   ·rw[ak d]at z
    have n1:=(W f b).1;have I:=(W f b).2;rw[aN _ _ (Gn n1)];obtain⟨g,c,e1,e2,e3,e4,e5⟩:=hf f b (by simpa[Gn n1]using z);refine⟨g,c,e1,e2,e3.below aC e3.lt,fun h=>e4 ?_,fun h=>aT f b _ _ _ (e5 ?_) m⟩
    ·rw[ak d]at h;simpa[Gn I]using h
    rw[ak d]at h;simpa[Gn I]using h
   rw[ak d]at S u;have n1:=(W f b).1;have I:=(W l k).1;rw[aN _ _ (Gn n1),aN _ _ (Gn I)];exact hd f b l k A (by simpa[Gn n1]using S) (by simpa[Gn I]using u)
  ·refine hv x n K' (hK _ _ ?_)
   have m:Kp n (n.alloc (.cells f.Z f.T)):=(Kp.refl n).alloc _
   have bk:L.getD f.s false=false:=by
    cases h:L.getD f.s false
    ·rfl
    exfalso;obtain⟨Y,H⟩:∃Y,ops[f.s]?=some Y:=⟨_,sr (ac f y).2⟩;rcases ad f.s Y H with⟨W,_⟩|⟨f2,ba,e2,a5,_⟩|⟨f2,ba,e2,_,_,bg,_,_,_,⟨e,he,C,ao⟩,_⟩|⟨f2,ba,e2,be,_⟩
    ·exact(W f y).2 rfl
    ·exact a5 f y rfl
    ·have:=bg f y rfl
     subst this;have:=a0 f.s Y H h e he C;rw[ao]at this;rw[this]at G;cases G
    exact(be f y).2 rfl
   refine⟨by simp;omega,upd x f.a _,U f.a o ho x _,⟨N.alloc _,hb.alloc (Nat.le_trans hB E) _⟩,fun j hj=>?_,O,fun l b z=>?_,fun f1 b f2 k A S u=>?_,aF _ m (fun g t c h _=>h.alloc _) F⟩
   ·by_cases h:j=f.a
    ·subst h;exact ab _ _
    rw[aN _ _ h];rw[ak d]at hj;exact hR _ _ _ _ (hr j (by simpa[h]using hj)) m
   ·by_cases h:l.a=f.a
    ·have:=D l b h
     subst this;rw[db];refine⟨_,_,rfl,E,Blk.new _ _ _,fun _=>rfl,fun h'=>?_⟩;rw[ak d,bk]at h';have:l.s=l.a:=by simpa using h'
     exact absurd this.symm (a1 l b)
    rw[aN _ _ h];rw[ak d]at z;have I:=a1 l b;obtain⟨g,c,e1,e2,e3,e4,e5⟩:=hf l b (by simpa[h]using z);refine⟨g,c,e1,e2,e3.alloc _,fun h=>e4 ?_,fun h=>aT l b _ _ _ (e5 ?_) m⟩
    ·rw[ak d]at h;simpa[Gn I]using h
    rw[ak d]at h;simpa[Gn I]using h
   rw[ak d]at S u
   have fresh:∀f3∈es,f3.a≠f.a->L.getD f3.a false=true->x f3.a≠.pointer (some ⟨n.heap.size,0,none⟩):=by
    intro f3 h3 bx bl M;obtain⟨g,c,e1,e2,e3,_⟩:=hf f3 h3 bl;rw[e1]at M;have hg:=e3.lt;injection M with M;injection M with M;injection M with M;omega
   by_cases c1:f1.a=f.a
   ·have c2:f2.a≠f.a:=fun h=>A (c1.trans h.symm)
    rw[c1,db,aN _ _ c2];exact(fresh f2 k c2 (by simpa[c2]using u)).symm
   rw[aN _ _ c1];by_cases c2:f2.a=f.a
   ·rw[c2,db];exact fresh f1 b c1 (by simpa[c1]using S)
   rw[aN _ _ c2];exact hd f1 b f2 k A (by simpa[c1]using S) (by simpa[c2]using u)
  ·have a8:L.getD f.a false=true:=by rw[<-ao];exact al e he C
   obtain⟨g,c,e1,e2,e3,e4,e5⟩:=hf f y a8;have hc:=e4 G;subst hc;obtain⟨J,a6,hv⟩:=hv x n g e1 e3 an;refine hv K' (fun v=>hK _ _ ?_);have m:Kp n (cN n g 0 J):=mu hT J 0 n _ f.hZ.h e3;have K:∀f3∈es,f3.a≠f.s:=fun f3 h3 h=>a9 f3 h3 h.symm
   refine⟨Nat.le_trans E (Nat.le_of_eq (fB J 0 n).symm),upd x f.s v,U f.s o ho x v,⟨N.trans m,dh (Nat.le_trans hB e2) J 0 n hb⟩,fun j hj=>?_,O,fun l b z=>?_,fun f1 b f2 k A S u=>?_,aF _ m (fun g2 t c h hex=>cW (by obtain⟨f2,u,rfl⟩:=hex;have:=(hO f2 u).1.lt;omega) J 0 n h) F⟩
   ·by_cases h:j=f.s
    ·subst h;exact ab _ _
    rw[aN _ _ h];rw[ak d]at hj;exact hR _ _ _ _ (hr j (by simpa[h]using hj)) m
   ·rw[aN _ _ (K l b)]
    rw[ak d]at z;by_cases h:l.a=f.a
    ·have:=aS l b h
     subst this;refine⟨g,_,e1,e2,gc J 0 n _ e3,fun h'=>?_,fun _=>a6 _ m⟩;rw[ak d]at h';simp at h'
    have I:l.s≠f.s:=fun u=>h (by rw[D l b u])
    obtain⟨g',c',d1,d2,d3,d4,d5⟩:=hf l b (by simpa[K l b]using z)
    have a4:g'≠g:=by
     rintro rfl;exact hd l b f y h (by simpa[K l b]using z) a8 (d1.trans e1.symm)
    refine⟨g',c',d1,d2,cW a4 J 0 n d3,fun h=>d4 ?_,fun h=>aT l b _ _ _ (d5 ?_) m⟩
    ·rw[ak d]at h;simpa[I]using h
    rw[ak d]at h;simpa[I]using h
   rw[ak d]at S u;rw[aN _ _ (K f1 b),aN _ _ (K f2 k)];exact hd f1 b f2 k A (by simpa[K f1 b]using S) (by simpa[K f2 k]using u)
  obtain⟨c,c1,c2,_⟩:=X f y;have hc:=c2 G;subst hc;obtain⟨J,a6,hv⟩:=hv x n c1 an;refine hv K' (fun v=>hK _ _ ?_);have m:Kp n (cN n f.g f.o J):=mu hT J f.o n _ f.hZ.h c1;have V:∀f3∈es,f3.a≠f.s:=fun f3 h3 h=>(a3 f3 h3).1 h.symm
  have bw:∀f3∈es,f3.s≠f.s:=fun f3 h3 h=>(a3 f3 h3).2 h.symm
  have bz:=(hO f y).1.lt;refine⟨Nat.le_trans E (Nat.le_of_eq (fB J f.o n).symm),upd x f.s v,U f.s o ho x v,⟨N.trans m,dh (hO f y).2 J f.o n hb⟩,fun j hj=>?_,O,fun l b z=>?_,fun f1 b f2 k A S u=>?_,fun l p=>?_⟩
  ·by_cases h:j=f.s
   ·subst h;exact ab _ _
   rw[aN _ _ h];rw[ak d]at hj;exact hR _ _ _ _ (hr j (by simpa[h]using hj)) m
  ·rw[aN _ _ (V l b)]
   rw[ak d]at z;have I:=bw l b;obtain⟨g',c',d1,d2,d3,d4,d5⟩:=hf l b (by simpa[V l b]using z);refine⟨g',c',d1,d2,cW (by omega) J f.o n d3,fun h=>d4 ?_,fun h=>aT l b _ _ _ (d5 ?_) m⟩
   ·rw[ak d]at h;simpa[I]using h
   rw[ak d]at h;simpa[I]using h
  ·rw[ak d]at S u
   rw[aN _ _ (V f1 b),aN _ _ (V f2 k)];exact hd f1 b f2 k A (by simpa[V f1 b]using S) (by simpa[V f2 k]using u)
  by_cases h:l.s=f.s
  ·have:=D l p h
   subst this;refine⟨_,gc J l.o n _ c1,fun h'=>?_,fun _=>a6 _ m⟩;rw[ak d]at h';simp at h'
  obtain⟨c',d3,d4,d5⟩:=X l p;have a4:l.g≠f.g:=fun u=>h (by rw[br l p f y u])
  refine⟨c',cW a4 J f.o n d3,fun u=>d4 ?_,fun u=>bd l p _ _ _ (d5 ?_) m⟩
  ·rw[ak d]at u;simpa[h]using u
  rw[ak d]at u;simpa[h]using u
 ·rintro L a n hs bs⟨E,x,rfl,⟨N,hb⟩,hr,a0,hf,hd,X⟩
  have r:∀i,i<ops.size->L.getD i false=true:=by
   intro i
   induction i using Nat.strongRecOn with
   |ind i ih =>
    intro hi;cases h:L.getD i false
    ·exfalso
     have:i∈Region.ready .any ops L:=by
      refine GL.2 ⟨?_,ops[i],sr hi,fun e he C=>?_⟩
      ·rw[pn,sr (by omega)]at h⊢;exact h
      have S:=bv i _ (sr hi) e he C;exact ih e.on S (by omega)
     rw[bs]at this;cases this
    rfl
  refine bb x n N hb E (fun f p=>?_) (fun i hi=>hr i (r i hi)) (fun f b=>?_) (fun f b l k A=>hd f b l k A (r _ (ac f b).1) (r _ (ac l k).1))
  ·obtain⟨c,c1,c2,c3⟩:=X f p
   refine⟨c,c1,fun h=>c2 ?_,fun h=>c3 (r _ h)⟩;rw[pn,zP (by omega)];rfl
  obtain⟨g,c,e1,e2,e3,_,e5⟩:=hf f b (r _ (ac f b).1);exact⟨g,c,e1,e2,e3,e5 (r _ (ac f b).2)⟩
 ·simp
 ·have hz:∀j,(Array.replicate ops.size false).getD j false=false:=by
   intro j;rw[pn,Gs];split<;>rfl
  refine⟨Qr,x0,rfl,⟨(Kp.refl w).drew,(kz B w).drew⟩,fun i h=>?_,fun i o _ h=>?_,fun f _ h=>?_,fun f _ l _ _ h=>?_,fun f p=>⟨_,(hO f p).1.drew,fun _=>rfl,fun h=>?_⟩⟩<;>rw[hz]at h<;>cases h
end

theorem Bv{ow:List Own}(h:ow.Pairwise (fun f c=>f.g≠c.g)):∀f∈ow,∀c∈ow,f.g=c.g->f=c:=by
 induction ow with
 |nil=>intro f j;cases j
 |cons a l ih =>
  obtain⟨m,n⟩:=List.pairwise_cons.1 h;intro f j c d k;rcases Gh.1 j with i|i
  ·rcases Gh.1 d with b|b
   ·rw[i,b]
   exact absurd (i ▸ k) (m _ b)
  rcases Gh.1 d with b|b
  ·exact absurd (b ▸ k).symm (m _ i)
  exact ih n f i c b k
def kD(S:Nat->Oper->Prop):Nat->List Oper->Prop
  |_,[]=>True
  |k,o::l=>S k o/\kD S (k+1) l
theorem vB{S:Nat->Oper->Prop}:∀(l:List Oper) (k:Nat),kD S k l->∀i o,l[i]?=some o->S (k+i) o:=by
 intro l
 induction l with
 |nil=>intro k _ i o h;simp at h
 |cons a l ih =>
  intro k h i o b
  cases i with
  |zero=>simp at b;subst b;exact h.1
  |succ i =>
   have:=ih (k+1) h.2 i o (by simpa using b);rw[show k+(i+1)=k+1+i by omega];exact this
theorem aD{S:Nat->Oper->Prop}{l:List Oper}(h:kD S 0 l):∀i o,(l.toArray)[i]?=some o->S i o:=fun i o a=>by
 have:=vB l 0 h i o (by simpa using a);rwa[Nat.zero_add]at this
def yq:Nat->List Oper->Bool
  |_,[]=>true
  |k,o::l=>o.after.all (fun e=>!Region.binds .any e||decide (e.on<k))&&yq (k+1) l
theorem bP:∀(l:List Oper) (k:Nat),yq k l=true->kD (fun i o=>∀e∈o.after,Region.binds .any e=true->e.on<i) k l:=by
 intro l
 induction l with
 |nil=>intro k _;trivial
 |cons a l ih =>
  intro k h;simp only[yq,uv]at h;refine⟨fun e b hb=>?_,ih _ h.2⟩;have:=(Array.all_eq_true_iff_forall_mem.1 h.1) e b;rw[hb]at this;simpa using this
def Bx(p:Value->World->Prop):Prop:=∀v w w',p v w->Kp w w'->p v w'
def lR:List (Value->World->Prop)->Prop
  |[]=>True
  |p::l=>Bx p/\lR l
theorem lR.get:∀(l:List (Value->World->Prop)),lR l->∀i v w a,l.getD i (fun _ _=>True) v w->Kp w a->l.getD i (fun _ _=>True) v a:=by
 intro l
 induction l with
 |nil=>intro _ i v w a _ _;simp
 |cons p l ih =>
  intro h i v w a b c
  cases i with
  |zero=>exact h.1 v w a b c
  |succ i=>exact ih h.2 i v w a b c
def PEq(u:Value):Value->World->Prop:=fun v _=>v=u
def qR:Value->World->Prop:=fun _ _=>True
def VQ(q:Rat)(k:Nat):Value->World->Prop:=fun v w=>∃b A n c D m e,v=.agg #[.bool b,.slice A n c,.slice D m e]/\QV w b A n c D m e q k
theorem vC(u:Value):Bx (PEq u):=fun _ _ _ h _=>h
theorem EL:Bx qR:=fun _ _ _ h _=>h
theorem stQ(q:Rat)(k:Nat):Bx (VQ q k):=fun _ _ _ ⟨b,A,n,c,D,m,e,d,h⟩ a=>⟨b,A,n,c,D,m,e,d,h.keep a⟩
def CQ(q:Rat)(k:Nat):Array Value->World->Prop:=fun v w=>∃b A n c D m e,v=#[.bool b,.slice A n c,.slice D m e]/\QV w b A n c D m e q k
def Dk:Array Value->World->Prop:=fun _ _=>True
theorem EM:∀c w w',Dk c w->Kp w w'->Dk c w':=fun _ _ _ h _=>h
theorem scQ(q:Rat)(k:Nat):∀c w w',CQ q k c w->Kp w w'->CQ q k c w':=fun _ _ _ ⟨b,A,n,c,D,m,e,d,h⟩ a=>⟨b,A,n,c,D,m,e,d,h.keep a⟩
theorem jx(w:World)(b:Bool)(A:Option Addr)(n c:Nat)(D:Option Addr)(m e:Nat)(a:RD)(k:Nat)(v:Bool)(h:QD w b A n c D m e a k)(d:k<=300000000)(f:a.ok=v):
 Calls Tryz.prog 135 #[.agg #[.bool b,.slice A n c,.slice D m e]] w (av w (.bool v)):=by subst f;exact Bq w b A n c D m e a k h d
theorem ol(w:World)(b A n c D m e a k)(h:QD w b A n c D m e a k)(K:0<k)(z:k<=300000000)(p:a.ok=false\/n=0):Calls Tryz.prog 184 #[.agg #[.bool b,.slice A n c,.slice D m e]] w (oc w a.q.num a.q.den k):=by
 obtain⟨v,f⟩:=Z9 (a.ok);have o:a.q.num=0/\(a.q.den:Int)=1:=CH (p.imp id fun E=>lq (by rw[<-h.2.1.2.1,E]));rw[o.1,o.2];have u:v=true->((n:Int)==0)=true:=fun e=>by rcases p with h|h;rw[h]at f;rw[<-f]at e;cases e;simp[h]
 have G:=Qh f;have H:=Qh h;clear o f p h;go_in;go_upto_region 1 with fail;refine dm ?_;intro x g;have d:B3 w w.heap.size 65 #[.bool b,.slice A n c,.slice D m e] 194 #[.bool false,.slice none 0 0] 194 #[.bool false,.slice none 0 0] x:=by rw[g];exact⟨((Blk.new w _ _).alloc _).alloc _,(aj _ _ _ (by simp)).alloc _,aj _ _ _ (by simp),(((aa w).alloc Qr _).alloc (by simp) _).alloc (by simp<;>omega) _⟩
 clear g;have y:=d.s.v3;go_wp2_with fail;(refine(jx _ b A n c D m e a k v (H.out.belw d.q) z G.out).mono ?_);rintro e M⟨rfl,i⟩;replace d:=d.call i;clear i y;have y:=d.s.v3;have key:∀ {P:Prop},(v=false->P)->(v=true->((n:Int)==0)=true->P)->P:=fun B l=>by cases v;exact B rfl;exact l rfl (u rfl)
 clear u;refine key (fun f=>?_) (fun f L=>?_)
 all_goals
  subst f;go_wp2_with fail;(refine(qP _).mono ?_);rintro e J⟨C,F,I,c2,rfl,l,j⟩;replace d:=d.call j;clear j y;have y:=And.intro d.t.v2 d.r.v2;go_wp2_with fail;refine zr1 (.tuple #[.agg #[.bool false,.slice none 0 0],.agg #[.bool C,.slice F I c2]]) ?_;have k2:=d.p1 (.bool false) (.slice none 0 0);exact⟨_,_,_,_,_,_,_,_,rfl,IV.zero _ _,(l.keep ((d.t.k2 (by decide) _ _).trans (k2.r.k2 (by decide) _ _))).mono (by omega),(k2.p2 _ _).q⟩
theorem vD(w:World)(b A n c D m e a k)(h:QD w b A n c D m e a k)(_:0<k)(C:k<=300000000)(p:a.ok=true)(u:a.num≠[]):Calls Tryz.prog 184 #[.agg #[.bool b,.slice A n c,.slice D m e]] w (oc w a.q.num a.q.den k):=by
 have F:=Qh (EK h.2.1.1 h.2.2.1.1 p u);have G:0<n:=by rcases Nat.eq_zero_or_pos n with l|l;exact absurd (lq (by rw[<-h.2.1.2.1,l])) u;exact l
 have I:((n:Int)==0)=false:=by simp;omega
 have E:=Qh p;clear p u;go_in;go_upto_region 1 with fail;refine dm ?_;intro B g;have d:B3 w w.heap.size 65 #[.bool b,.slice A n c,.slice D m e] 194 #[.bool false,.slice none 0 0] 194 #[.bool false,.slice none 0 0] B:=by rw[g];exact⟨((Blk.new w _ _).alloc _).alloc _,(aj _ _ _ (by simp)).alloc _,aj _ _ _ (by simp),(((aa w).alloc Qr _).alloc (by simp) _).alloc (by simp<;>omega) _⟩
 clear g;have y:=d.s.v3;go_wp2_with fail;(refine(jx _ b A n c D m e a k true (h.belw d.q) C E.out).mono ?_);rintro H J⟨rfl,i⟩;replace d:=d.call i;replace h:=h.belw d.q;clear i y;have y:=And.intro d.s.v3 (And.intro d.t.v2 d.r.v2);go_wp2_with fail;have k2:=(d.p1 (.bool b) (.slice A n c)).p2 (.bool false) (.slice D m e);have j:=(d.t.k2 (by decide) (.bool b) (.slice A n c)).trans ((d.p1 (.bool b) (.slice A n c)).r.k2 (by decide) (.bool false) (.slice D m e));have k3:=(d.p2 (.bool false) (.slice D m e)).p1 (.bool b) (.slice A n c);have f:=(d.r.k2 (by decide) (.bool false) (.slice D m e)).trans ((d.p2 (.bool false) (.slice D m e)).t.k2 (by decide) (.bool b) (.slice A n c));go_region
 all_goals
  go_wp2_with fail;refine zr1 (.tuple #[.agg #[.bool b,.slice A n c],.agg #[.bool false,.slice D m e]]) ?_;obtain⟨x,o,z⟩:=F.out
  first
   |exact⟨b,A,n,c,false,D,m,e,rfl,⟨h.1.symm.trans o,x ▸ h.2.1.keep j,h.2.2.2.1⟩,⟨by simp[wh],z ▸ h.2.2.1.keep j,h.2.2.2.2⟩,k2.q⟩
   |exact⟨b,A,n,c,false,D,m,e,rfl,⟨h.1.symm.trans o,x ▸ h.2.1.keep j.drew,h.2.2.2.1⟩,⟨by simp[wh],z ▸ h.2.2.1.keep j.drew,h.2.2.2.2⟩,k2.q.drew⟩
   |exact⟨b,A,n,c,false,D,m,e,rfl,⟨h.1.symm.trans o,x ▸ h.2.1.keep f.drew,h.2.2.2.1⟩,⟨by simp[wh],z ▸ h.2.2.1.keep f.drew,h.2.2.2.2⟩,k3.q.drew⟩
theorem eP(w:World)(b A n c D m e q k)(h:QZ w b A n c D m e q k)(f:0<k)(d:k<=300000000):
 Calls Tryz.prog 184 #[.agg #[.bool b,.slice A n c,.slice D m e]] w (oc w q.num q.den k):=by
 obtain⟨a,h,rfl⟩:=h;cases ho:a.ok
 ·exact ol w b A n c D m e a k h f d (.inl ho)
 by_cases hn:n=0
 ·exact ol w b A n c D m e a k h f d (.inr hn)
 exact vD w b A n c D m e a k h f d ho (h.num_ne (by omega))
theorem yr(w:World)(b A n c D m e q k)(h:QZ w b A n c D m e q k)(G:0<k)(H:k<=40000000):
 Calls Tryz.prog 174 #[.agg #[.bool b,.slice A n c,.slice D m e]] w (av w (.int .i64 q.num.sign)):=by
 go_in;go_wp2_with fail;refine(eP _ b A n c D m e (q) (k) ?_ ?_ ?_).mono ?_;(exact(h.belw ((kz _ _).alloc Qr _)));(omega);(omega);rintro e l⟨r,s,t,c1,u,y,B,v,rfl,o,i,f⟩;have q1:=f.q1;replace h:=h.belw q1;have j:Blk l w.heap.size 65 #[.bool b,.slice A n c,.slice D m e]:=(aj _ _ _ (by simp)).below f (by simp);have d:=(aa w).trans (q1.mono (aa w).size);have x:=f.l1;clear q1;go_wp2_with fail;refine(mt _ r s t c1 ((q).num) ((k)) ?_ ?_).mono ?_;(exact(o.belw (((kz _ _).alloc Qr _).alloc (by simp) _)).iz);(omega);rintro e F⟨rfl,a⟩;have q2:=a.q2;replace h:=h.belw q2;replace o:=o.belw q2;replace i:=i.belw q2;replace j:=j.b q2;have C:Blk F l.heap.size 194 #[.bool r,.slice s t c1]:=((aj _ _ _ (by simp)).alloc _).below a (by simp<;>omega);have z:=(aj _ _ _ (g:=l.heap.size+1) (by simp)).below a (by simp);have p:=d.trans (q2.mono d.size);have E:=a.l2;clear q2 d;go_wp2;go_ret;exact cF rfl p
theorem px(w:World)(A n c l)(k:Wd w A n c l)(m:Option Addr)(a p:Nat)(f:Wd w m a p l)(C:n<=1000000000):
 Calls Tryz.prog 122 #[.slice A n c,.slice m a p] w (av w (.bool true)):=by
 have h:a=n:=by rw[k.2.1,f.2.1]
 subst h;have v:=Qh k;have t:=Qh f;clear k f;go_in;go_wp2_with fail;go_loopw [5] (fun j wr=>∃(i q:Nat),i<=a/\j=.int .i64 (i:Nat)/\wr=w.drewN q) (fun j _=>a-(intOf j).toNat)
 case atStart=>exact⟨0,0,Nat.zero_le _,rfl,rfl⟩
 case round =>
  obtain⟨i,q,B,rfl,rfl⟩:=hrel;by_cases hlt:i<a
  ·obtain⟨g,o,rfl,d⟩:=v.out.at_ (by omega)
   obtain⟨g',z,rfl,b⟩:=t.out.at_ (by omega);have u:=d i hlt;have s:=b i hlt;have y:(0:Int)<=(i:Int):=by omega
   have r:(i:Int)<(a:Int):=by omega
   generalize wd l i=x at u s;clear d b;go_wp2_with fail;go_quiet (fail);go_wp2;go_roundw
   case rel=>exact⟨i+1,_,by omega,by go_num,rfl⟩
   case measure=>simp[intOf];omega
  go_wp2;go_ret;exact cg rfl (by repeat (first|exact kz _ _|refine af ?_ _))
end Go.Proofs.YtfilnhompchciaaGreatDoor
namespace Bn
open Go.Lib
theorem qS{q d:Nat}(a:0<q)(hd:d<10):decDigits (q*10+d)=decDigits q++[UInt8.ofNat (48+d)]:=by
 rw[decDigits,dif_neg (by omega),show (q*10+d)/10=q by omega,show (q*10+d)%10=d by omega]
def qT:Nat->Nat->List UInt8
  |0,_=>[]
  |k+1,r=>qT k (r/10)++[UInt8.ofNat (48+r%10)]
theorem uc:∀(k:Nat) {q r:Nat},0<q->r<10^k->decDigits (q*10^k+r)=decDigits q++qT k r
 |0,q,r,_,hr=>by
  have:r=0:=by simpa using hr
  subst this;simp[qT]
 |k+1,q,r,hq,hr=>by
  have a:r/10<10^k:=by rw[Nat.pow_succ]at hr;omega
  have b:0<q*10^k:=Nat.mul_pos hq (Nat.pow_pos (by omega))
  have e:q*10^(k+1)+r=(q*10^k+r/10)*10+r%10:=by
   rw[Nat.pow_succ,<-Nat.mul_assoc];generalize q*10^k=P;omega
  rw[e,qS (by omega) (Nat.mod_lt _ (by omega)),uc k hq a,qT,ys]
theorem py:∀ {k u:Nat},0<k->u<10^k->nDigits u<=k
 |0,_,h,_=>absurd h (by omega)
 |k+1,u,_,hu=>by
  by_cases h:u<10
  ·rw[nDigits_small h];omega
  rw[nDigits_big h];have a:k≠0:=by rintro rfl;exact h (by simpa using hu)
  have:=py (k:=k) (u:=u/10) (by omega) (by rw[Nat.pow_succ]at hu;omega);omega
theorem qU:∀k,qT k 0=repeatL [48] k
 |0=>rfl
 |k+1=>by rw[qT,qU k,repeatL_add,repeatL_one];rfl
theorem yt:∀ {k r:Nat},0<k->r<10^k->qT k r=repeatL [48] (k-nDigits r)++decDigits r
 |0,_,h,_=>absurd h (by omega)
 |k+1,r,_,hr=>by
  rw[qT];by_cases h:r<10
  ·rw[Nat.div_eq_of_lt h,qU,nDigits_small h,decDigits_one h,Nat.mod_eq_of_lt h];rfl
  have a:k≠0:=by rintro rfl;exact h (by simpa using hr)
  rw[yt (k:=k) (r:=r/10) (by omega) (by rw[Nat.pow_succ]at hr;omega),nDigits_big h,ys];congr 1
  ·congr 1;omega
  conv=>rhs;rw[decDigits,dif_neg h]
def lM(N q:Nat)(ps:List (List UInt8)):Prop:=(0<q->decDigits N=decDigits q++ps.flatten)/\(q=0->decDigits N=ps.flatten)/\ps.length<=ps.flatten.length
theorem lM.start{N:Nat}(h:0<N):lM N N []:=⟨fun _=>by simp,fun e=>absurd e (by omega),by simp⟩
theorem lM.more{N q:Nat}{a:List (List UInt8)}(h:lM N q a)(c:0<q/1000000000):
 lM N (q/1000000000) ((repeatL [48] (9-nDigits (q%1000000000))++decDigits (q%1000000000))::a):=by
 have b:q%1000000000<10^9:=Nat.mod_lt _ (by omega);have e:q/1000000000*10^9+q%1000000000=q:=by rw[Nat.mul_comm];exact Nat.div_add_mod q 1000000000
 refine⟨fun _=>?_,fun e=>absurd e (by omega),?_⟩
 ·rw[h.1 (by omega),GP,<-ys,<-yt (by omega) b,<-uc 9 c b,e]
 have f:=h.2.2;have d:=nDigits_pos (q%1000000000);simp only[oP,GP,kc,decDigits_length];omega
theorem lM.last{N q:Nat}{a:List (List UInt8)}(h:lM N q a)(b:0<q)(d:q/1000000000=0):
 lM N (q/1000000000) (decDigits (q%1000000000)::a):=by
 have e:q%1000000000=q:=Nat.mod_eq_of_lt (by omega);rw[e];refine⟨fun e=>absurd e (by omega),fun _=>?_,?_⟩
 ·rw[h.1 b,GP]
 have c:=h.2.2;have f:=nDigits_pos q;simp only[oP,GP,kc,decDigits_length];omega
theorem lM.len{N q:Nat}{a:List (List UInt8)}(h:lM N q a):a.flatten.length<=nDigits N/\a.length<=nDigits N:=by
 have b:=h.2.2
 have:a.flatten.length<=nDigits N:=by
  rw[<-decDigits_length];rcases Nat.eq_zero_or_pos q with e|e
  ·rw[h.2.1 e];exact Qr
  rw[h.1 e,kc];omega
 exact⟨this,by omega⟩
theorem sM{N n:Nat}(a:0<n)(h:N<4294967296^n):nDigits N<=10*n:=by
 refine py (by omega) (Nat.lt_of_lt_of_le h ?_);rw[Nat.pow_mul];exact Nat.pow_le_pow_left (by omega) n
theorem gf{N n K:Nat}(a:n<=K)(b:0<K)(h:N<4294967296^n):nDigits N<=10*K :=
 sM b (Nat.lt_of_lt_of_le h (Nat.pow_le_pow_right (by omega) a))
theorem vE(a:List (List UInt8)):join a []=a.flatten:=by
 cases a with
 |nil=>rfl
 |cons x r=>rw[join_cons,joinTail];simp
theorem iR(z:Int):itoa z=(if z<0 then [45] else [])++decDigits z.natAbs:=by
 unfold itoa;split
 ·rfl
 rw[show z.toNat=z.natAbs by omega];rfl
end Bn

/- Digits one by one; texts read as numbers: plain. -/
namespace Bn
open Go.Lib
def dg(V:Nat):List UInt8:=if V=0 then [] else decDigits V
theorem BA:dg 0=[]:=rfl
theorem Dl{V:Nat}(h:0<V):dg V=decDigits V:=kl (by omega)
theorem BB{V:Nat}(h:0<V):dg V=dg (V/10)++[UInt8.ofNat (48+V%10)]:=by
 unfold dg;rw[kl (by omega)];by_cases h1:V<10
 ·rw[kZ (by omega),decDigits_one h1,Nat.mod_eq_of_lt h1];rfl
 rw[kl (by omega)];conv=>lhs;rw[decDigits,dif_neg h1]
def DgI(N q k r:Nat)(s:List UInt8):Prop:=decDigits N=dg (q*10^(9-k)+r)++s/\r<10^(9-k)
theorem DgI.start{N Q:Nat}{s:List UInt8}(h:decDigits N=dg Q++s):DgI N (Q/1000000000) 0 (Q%1000000000) s:=by
 refine⟨?_,Nat.mod_lt _ (by decide)⟩;rw[show Q/1000000000*10^(9-0)+Q%1000000000=Q by rw[Nat.mul_comm];exact Nat.div_add_mod Q 1000000000];exact h
theorem DgI.step{N q k r:Nat}{s:List UInt8}(h:DgI N q k r s)(i:k<9)(c:0<r\/0<q):DgI N q (k+1) (r/10) ([UInt8.ofNat (48+r%10)]++s):=by
 obtain⟨a,b⟩:=h;have e:10^(9-k)=10^(9-(k+1))*10:=by rw[<-Nat.pow_succ];congr 1;omega
 rw[e]at a b;have g:0<10^(9-(k+1)):=Nat.pow_pos (by omega);unfold DgI;generalize 10^(9-(k+1))=P at *;have f:q*(P*10)+r=(q*P+r/10)*10+r%10:=by rw[<-Nat.mul_assoc];omega
 have d:0<q*(P*10)+r:=by
  rcases c with h|h
  ·omega
  have:=Nat.mul_pos h (show 0<P*10 by omega);omega
 refine⟨?_,by omega⟩;rw[a,BB d,f,show ((q*P+r/10)*10+r%10)/10=q*P+r/10 by omega,show ((q*P+r/10)*10+r%10)%10=r%10 by omega,ys]
theorem DgI.done9{N q r:Nat}{s:List UInt8}(h:DgI N q 9 r s):decDigits N=dg q++s:=by
 obtain⟨b,a⟩:=h;have:r=0:=by simpa using a
 subst this;simpa using b
theorem DgI.done0{N k:Nat}{s:List UInt8}(h:DgI N 0 k 0 s):decDigits N=dg 0++s:=by
 obtain⟨a,_⟩:=h;simpa using a
theorem yu{N Q:Nat}{s:List UInt8}(h:decDigits N=dg Q++s):s.length<=nDigits N:=by
 rw[<-decDigits_length,h,kc];omega
theorem DgI.len{N q k r:Nat}{s:List UInt8}(h:DgI N q k r s):s.length<=nDigits N:=yu h.1

/-! ### Texts read -/
def aU(c:UInt8):Bool:=decide (48<=c.toNat)&&decide (c.toNat<=57)
def gX(c:UInt8):Nat:=c.toNat-48
def ap(l:List UInt8):Nat:=l.foldl (fun a c=>a*10+gX c) 0
theorem vF(l:List UInt8):∀a,l.foldl (fun a c=>a*10+gX c) a=a*10^l.length+ap l:=by
 unfold ap
 induction l with
 |nil=>intro a;simp
 |cons x r ih =>
  intro a;rw[Hd,ih,Hd,ih (0*10+gX x),oP,Nat.pow_succ,Nat.add_mul];rw[Nat.zero_mul,Nat.zero_add,Nat.mul_assoc,Nat.mul_comm 10,Nat.add_assoc]
theorem il(a b:List UInt8):ap (a++b)=ap a*10^b.length+ap b:=by
 conv=>lhs;unfold ap
 rw[List.foldl_append,vF];rfl
theorem dP(a:List UInt8)(c:UInt8):ap (a++[c])=ap a*10+gX c:=by
 rw[il];simp[ap]
theorem dQ:∀ {l:List UInt8},l.all aU=true->ap l<10^l.length:=by
 intro l
 induction l with
 |nil=>intro _;simp[ap]
 |cons x r ih =>
  intro h;rw[Gd,uv]at h;have b:=ih h.2
  have a:gX x<=9:=by
   have:=h.1;unfold aU at this;simp at this;unfold gX;omega
  have e:ap (x::r)=gX x*10^r.length+ap r:=by
   have:=il [x] r;simpa[ap]using this
  rw[e,oP,Nat.pow_succ];have:=Nat.mul_le_mul_right (10^r.length) a;omega
def cX(l:List UInt8):List UInt8:=match l with|45::r=>r|l=>l
def dE(l:List UInt8):Bool:=match l with|45::_=>true|_=>false
def okZ(l:List UInt8):Bool:=decide (cX l≠[])&&(cX l).all aU && !(decide ((cX l).head?=some 48)&&(decide (1<(cX l).length)||dE l))
def im(l:List UInt8):Int:=if dE l then -(ap (cX l):Int) else ap (cX l)
theorem qV{d:Nat}(h:d<10):aU (UInt8.ofNat (48+d))=true/\gX (UInt8.ofNat (48+d))=d:=by
 have e:(UInt8.ofNat (48+d)).toNat=48+d:=by simp;omega
 unfold aU gX;rw[e];simp;omega
theorem ud(n:Nat):(decDigits n).all aU=true/\ap (decDigits n)=n:=by
 induction n using Nat.strongRecOn with
 |ind n ih =>
  by_cases h:n<10
  ·rw[decDigits_one h]
   have a:=qV h;generalize UInt8.ofNat (48+n)=c at a;refine⟨by rw[Gd,a.1];rfl,?_⟩;rw[<-Gf [c],dP,a.2];simp[ap]
  ·have e:decDigits n=decDigits (n/10)++[UInt8.ofNat (48+n%10)]:=by
    conv=>lhs;rw[decDigits,dif_neg h]
   have a:=ih (n/10) (by omega);have b:=qV (Nat.mod_lt n (show 0<10 by omega));generalize UInt8.ofNat (48+n%10)=c at b e;refine⟨by rw[e,Gv,a.1,Gd,b.1];rfl,?_⟩;rw[e,dP,a.2,b.2];omega
theorem yv{n:Nat}(h:0<n):∃c r,decDigits n=c::r/\c≠48/\c≠45:=by
 induction n using Nat.strongRecOn with
 |ind n ih =>
  by_cases h1:n<10
  ·rw[decDigits_one h1]
   refine⟨_,[],rfl,?_,?_⟩
   ·intro e
    have:=mo UInt8.toNat e;simp at this;omega
   intro e;have:=mo UInt8.toNat e;simp at this;omega
  ·have e:decDigits n=decDigits (n/10)++[UInt8.ofNat (48+n%10)]:=by
    conv=>lhs;rw[decDigits,dif_neg h1]
   obtain⟨c,r,b,a⟩:=ih (n/10) (by omega) (by omega);exact⟨c,r++[UInt8.ofNat (48+n%10)],by rw[e,b];rfl,a⟩
end Bn

/- Texts read as numbers: what the library's functions give on digits. Plain. -/
namespace Bn
open Go.Lib
theorem qW{c:UInt8}(h:aU c=true):digitVal c=some (gX c):=by
 unfold aU at h;rw[uv,FZ,FZ]at h;unfold digitVal gX;rw[kZ h]
theorem sN:∀ {l:List UInt8},l.all aU=true->∀b,decFrom b l=some (l.foldl (fun a c=>a*10+gX c) b):=by
 intro l
 induction l with
 |nil=>intro _ b;rfl
 |cons x r ih =>
  intro h b;rw[Gd,uv]at h;rw[decFrom,qW h.1,Hd];exact ih h.2 _
theorem yw{l:List UInt8}(h:l.all aU=true)(c:l≠[]):atoi l=some (ap l:Int):=by
 cases l with
 |nil=>exact absurd rfl c
 |cons x r =>
  have a:aU x=true:=by rw[Gd,uv]at h;exact h.1
  have b:(x==45)=false:=by
   apply Bool.eq_false_iff.2;intro e;rw[xm]at e;subst e;exact absurd a (by decide)
  have d:(x==43)=false:=by
   apply Bool.eq_false_iff.2;intro e;rw[xm]at e;subst e;exact absurd a (by decide)
  unfold atoi;dsimp only;rw[b,d];simp only[Gx,Hw];unfold decNat;rw[kl (by simp),sN h];rfl
def mw:List UInt8:=[48,49,50,51,52,53,54,55,56,57]
theorem qX(c:UInt8):mw.contains c=aU c:=by
 have h:∀v:Fin 256,mw.contains (UInt8.ofNat v)=aU (UInt8.ofNat v):=by decide +kernel
 have:=h ⟨c.toNat,c.toNat_lt⟩;simpa using this
theorem cK{p:UInt8->Bool}:∀ {l:List UInt8},l.dropWhile p=[] ↔ l.all p=true:=by
 intro l
 induction l with
 |nil=>simp
 |cons x r ih =>
  by_cases h:p x=true
  ·rw[H7 h,ih,Gd,h];simp
  rw[H9 h];simp[h]
theorem iT{p:UInt8->Bool}:∀ {l:List UInt8}{x:UInt8}{r:List UInt8},l.dropWhile p=x::r->p x=false:=by
 intro l
 induction l with
 |nil=>intro x r h;simp at h
 |cons y s ih =>
  intro x r h;by_cases hy:p y=true
  ·rw[H7 hy]at h;exact ih h
  rw[H9 hy]at h;injection h with h1 h2;subst h1;simpa using hy
theorem BC{l:List UInt8}:trimS l mw=[] ↔ l.all aU=true:=by
 have a:(fun b=>mw.contains b)=aU:=funext qX;unfold trimS trimLeftS trimRightS;rw[a];rw[cK,GH];constructor
 ·intro h
  cases hd:l.reverse.dropWhile aU with
  |nil=>have:=cK.1 hd;rw[GH]at this;exact this
  |cons x r =>
   rw[hd,Gd,uv]at h;rw[iT hd]at h;exact absurd h.1 (by simp)
 intro h;rw[cK.2 (by rw[GH];exact h)];rfl
theorem iU(l:List UInt8):hasPrefix l [45]=dE l:=by
 unfold hasPrefix dE
 cases l with
 |nil=>rfl
 |cons x r =>
  by_cases h:x=45
  ·subst h;rfl
  have e:(45==x)=false:=by simp;exact fun e=>h e.symm
  simp only[List.isPrefixOf,e,Bool.false_and];split
  ·rename_i a;injection a with h2;exact absurd h2 h
  rfl
theorem kE(l:List UInt8):trimPrefix l [45]=cX l:=by
 unfold trimPrefix;rw[iU];unfold dE cX;split
 ·rename_i r
  rfl
 rfl
theorem vG(l:List UInt8):(cX l).length<=l.length:=by
 unfold cX;split<;>simp
theorem pz(k:Nat):10^k<=4294967296^k:=Nat.pow_le_pow_left (by omega) k
theorem pA{l:List UInt8}(h:l.all aU=true):ap l<4294967296^l.length:=Nat.lt_of_lt_of_le (dQ h) (pz _)
theorem qY{l:List UInt8}{p:UInt8->Bool}(h:l.all p=true)(k:Nat):(l.take k).all p=true:=by
 rw[zX]at h⊢;exact fun x a=>h x (GM a)
theorem qZ{l:List UInt8}{p:UInt8->Bool}(h:l.all p=true)(k:Nat):(l.drop k).all p=true:=by
 rw[zX]at h⊢;exact fun x a=>h x (List.mem_of_mem_drop a)
def nI(t pre rest:List UInt8):Prop:=t=pre++rest/\(pre=[]\/rest.length%9=0)
theorem nI.step{t pre rest:List UInt8}{n:Nat}(h:nI t pre rest)(b:0<rest.length)(c:(rest.length-1)%9+1=n):
 n<=rest.length/\n<=9/\0<n/\nI t (pre++rest.take n) (rest.drop n)/\ap (pre++rest.take n)=ap pre*1000000000+ap (rest.take n):=by
 have a:n<=rest.length:=by have:=Nat.mod_le (rest.length-1) 9;omega
 refine⟨a,by have:=Nat.mod_lt (rest.length-1) (show 0<9 by omega);omega,by omega,⟨?_,?_⟩,?_⟩
 ·rw[ys,GX];exact h.1
 ·right;rw[vu];omega
 rw[il,vq,Nat.min_eq_left a];rcases h.2 with e|e
 ·subst e;simp[ap]
 have:n=9:=by omega
 subst this;rfl
theorem nI.start(t:List UInt8):nI t [] t:=⟨rfl,.inl rfl⟩
theorem nI.fin{t pre:List UInt8}(h:nI t pre []):pre=t:=by have:=h.1;rw[Gw]at this;exact this.symm
theorem vH{l:List UInt8}(h:okZ l=true):cX l≠[]/\(cX l).all aU=true/\¬((cX l).head?=some 48/\(1<(cX l).length\/dE l=true)):=by
 unfold okZ at h;simp at h;refine⟨h.1.1,by simpa using h.1.2,fun⟨a,b⟩=>?_⟩;rcases h.2 with e|e
 ·exact e a
 rcases b with b|b
 ·omega
 rw[b]at e;exact absurd e.2 (by simp)
end Bn

/- Division bit by bit: plain numbers. -/
namespace Bn
theorem yx{l:List Nat}(h:Wds l)(j:Nat):wd l j=val l/4294967296^j%4294967296:=by
 have e:=bf l (show l.length<=j+(l.length+1) by omega);have a:Sm (wd l) j<4294967296^j:=fW (fun i _=>cf h i);rw[sE,qr]at e;simp only[Nat.add_zero]at e;generalize Sm (fun i=>wd l (j+(i+1))) l.length=X at e;rw[<-e,Nat.add_mul_div_left _ _ (iK j),Nat.div_eq_of_lt a,Nat.zero_add,Nat.add_mul_mod_self_left];exact(Nat.mod_eq_of_lt (cf h j)).symm
theorem lf(i:Nat):4294967296^(i/32)*2^(i%32)=2^i:=by
 have:(4294967296:Nat)^(i/32)=2^(32*(i/32)):=by rw[Nat.pow_mul]
 rw[this,<-Nat.pow_add,Nat.div_add_mod]
theorem Dm{l:List Nat}(h:Wds l)(i:Nat):wd l (i/32)/2^(i%32)%2=val l/2^i%2:=by
 rw[yx h,<-lf i,<-Nat.div_div_eq_div_mul];generalize val l/4294967296^(i/32)=x;have c:i%32<32:=Nat.mod_lt _ (by decide);generalize i%32=s at *;have a:=Nat.testBit_mod_two_pow x 32 s;simp only[c,decide_true,Ho,Nat.testBit_eq_decide_div_mod_eq]at a;have b:(x%2^32/2^s%2=1) ↔ (x/2^s%2=1):=by simpa using a
 have e:(2:Nat)^32=4294967296:=by decide
 rw[e]at b;omega
theorem BD(L:List Nat)(j x:Nat)(h:j<L.length):val (L.set j x)+wd L j*4294967296^j=val L+x*4294967296^j:=by
 have:=eu L j x L.length h h;rw[bf (L.set j x) (by simp),bf L Qr]at this;exact this
theorem yy{x s:Nat}(a:x%2^(s+1)=0):x ||| 2^s=x+2^s:=by
 have h:=Nat.shiftLeft_add_eq_or_of_lt (b:=2^s) (i:=s+1) (Nat.pow_lt_pow_right (by omega) (by omega)) (x/2^(s+1));rw[Nat.shiftLeft_eq,Nat.div_mul_cancel (Nat.dvd_of_mod_eq_zero a)]at h;exact h.symm
theorem Dn{L:List Nat}(h:Wds L)(i:Nat)(f:i/32<L.length){m:Nat}(d:val L=m*2^(i+1)):
 wd L (i/32) ||| 2^(i%32)=wd L (i/32)+2^(i%32)/\wd L (i/32)+2^(i%32)<4294967296/\val (L.set (i/32) (wd L (i/32)+2^(i%32)))=val L+2^i:=by
 have g:i%32<32:=Nat.mod_lt _ (by decide)
 have b:wd L (i/32)%2^(i%32+1)=0:=by
  rw[yx h,d,Nat.pow_succ,<-lf i];have c:m*(4294967296^(i/32)*2^(i%32)*2)=4294967296^(i/32)*(m*2^(i%32+1)):=by rw[Nat.pow_succ];grind
  rw[c,Nat.mul_div_cancel_left _ (iK _)];have j:(4294967296:Nat)=2^(i%32+1)*2^(31-i%32):=by rw[<-Nat.pow_add,show i%32+1+(31-i%32)=32 by omega]
  rw[j,Nat.mod_mul_right_mod,Nat.mul_mod_left]
 refine⟨yy b,?_,?_⟩
 ·have a:wd L (i/32) ||| 2^(i%32)<2^32:=Nat.or_lt_two_pow (cf h _) (Nat.pow_lt_pow_right (by omega) g)
  rw[yy b]at a;exact a
 have a:=BD L (i/32) (wd L (i/32)+2^(i%32)) f;rw[Nat.add_mul,Nat.mul_comm (2^(i%32)),lf]at a;omega
theorem ra(a k:Nat):a/2^k=2*(a/2^(k+1))+a/2^k%2:=by
 rw[Nat.pow_succ,<-Nat.div_div_eq_div_mul];omega
theorem Dp{a v k r:Nat}(j:r=2*(a/2^(k+1)%v)+a/2^k%2)(h:v<=r)(d:0<v):
 a/2^k/v=2*(a/2^(k+1)/v)+1/\a/2^k%v=r-v:=by
 have e:=ra a k;generalize a/2^(k+1)=hi at *;generalize hb:a/2^k%2=b at *;have f:b<=1:=by omega
 rw[e];have i:=Nat.mod_lt hi d;have hd:=Nat.div_add_mod hi v
 have g:2*hi+b=v*(2*(hi/v)+1)+(r-v):=by
  rw[Nat.mul_add,Nat.mul_one];have:v*(2*(hi/v))=2*(v*(hi/v)):=by grind
  omega
 have c:r-v<v:=by omega
 rw[g];constructor
 ·rw[Nat.mul_add_div d,Nat.div_eq_of_lt c,Nat.add_zero]
 rw[Nat.mul_add_mod,Nat.mod_eq_of_lt c]
theorem BE{a v k r:Nat}(f:r=2*(a/2^(k+1)%v)+a/2^k%2)(h:r<v):
 a/2^k/v=2*(a/2^(k+1)/v)/\a/2^k%v=r:=by
 have c:0<v:=by omega
 have e:=ra a k;generalize a/2^(k+1)=hi at *;generalize hb:a/2^k%2=b at *;rw[e];have hd:=Nat.div_add_mod hi v
 have d:2*hi+b=v*(2*(hi/v))+r:=by
  have:v*(2*(hi/v))=2*(v*(hi/v)):=by grind
  omega
 rw[d];constructor
 ·rw[Nat.mul_add_div c,Nat.div_eq_of_lt h,Nat.add_zero]
 rw[Nat.mul_add_mod,Nat.mod_eq_of_lt h]
def nJ(l L:List Nat)(b k cr:Nat):Prop:=(∀i,k<=i->wd L i=wd l i)/\Sm (wd L) k+cr*4294967296^k=2*Sm (wd l) k+b
theorem nJ.start(l:List Nat)(b:Nat):nJ l l b 0 b:=⟨fun _ _=>rfl,by simp[Sm]⟩
theorem rb{x c:Nat}(a:c<=1)(d:x<4294967296):(x*2%4294967296 ||| c)=x*2%4294967296+c/\x*2%4294967296+c<4294967296/\x/2147483648<=1:=by
 refine⟨?_,by omega,by omega⟩;have h:=Nat.shiftLeft_add_eq_or_of_lt (b:=c) (i:=1) (by omega) (x*2%4294967296/2);rw[Nat.shiftLeft_eq,Nat.pow_one,show x*2%4294967296/2*2=x*2%4294967296 by omega]at h;exact h.symm
theorem nJ.step{l L:List Nat}{b k a x:Nat}(h:nJ l L b k a)(g:wd l k=x)(d:x<4294967296)(c:k<L.length):
 nJ l (L.set k (x*2%4294967296+a)) b (k+1) (x/2147483648):=by
 refine⟨fun i m=>?_,?_⟩
 ·rw[cq,kl (by omega)];exact h.1 i (by omega)
 rw[cI _ _ _ c,Sm,g,Nat.pow_succ];have j:=h.2;have e:x*2%4294967296+x/2147483648*4294967296=2*x:=by omega
 have n:x*2%4294967296*4294967296^k+x/2147483648*(4294967296^k*4294967296)=2*(x*4294967296^k):=by
  have:(x*2%4294967296+x/2147483648*4294967296)*4294967296^k=2*x*4294967296^k:=by rw[e]
  rw[Nat.add_mul]at this;have f:x/2147483648*(4294967296^k*4294967296)=x/2147483648*4294967296*4294967296^k:=by grind
  rw[f,<-Nat.mul_assoc];exact this
 rw[Nat.add_mul];omega
theorem nJ.fin{l L:List Nat}{b k a:Nat}(h:nJ l L b k a)(d:l.length=k)(g:L.length=k)(f:2*val l+b<4294967296^k):val L=2*val l+b:=by
 have c:=h.2;rw[bf L (by omega),bf l (by omega)]at c;rcases Nat.eq_zero_or_pos a with e|e
 ·subst e;omega
 have:1*4294967296^k<=a*4294967296^k:=Nat.mul_le_mul_right _ e;omega
theorem yz{r v b m:Nat}(c:r<v)(a:v<4294967296^m)(hb:b<=1):2*r+b<4294967296^(m+1):=by
 rw[Nat.pow_succ];omega
end Bn

/- Numbers of bits: plain numbers. -/
namespace Bn
theorem val_rep(n:Nat):val (List.replicate n 0)=0:=by
 induction n with
 |zero=>rfl
 |succ n ih=>rw[GD,val,ih]
end Bn

/- Walks: the reference's number of bits. -/
namespace Go.Proofs.YtfilnhompchciaaGreatDoor
open Go Go.RowKit Bn
attribute [local go_sem ↓] Go.wp_at_zero Go.wp_at_succ

theorem yA{l:List Nat}(h:Wds l)(g:0<l.length){t:Nat}(a:wd l (l.length-1)<2^t):val l<2^(32*(l.length-1)+t):=by
 have e:=bf l Qr;obtain⟨m,b⟩:∃m,l.length=m+1:=⟨l.length-1,by omega⟩;rw[b]at e a⊢;simp only[Nat.add_sub_cancel]at a⊢;rw[Sm]at e;have d:Sm (wd l) m<4294967296^m:=fW (fun i _=>cf h i);have c:(4294967296:Nat)^m=2^(32*m):=by rw[Nat.pow_mul]
 rw[c]at d e;rw[Nat.pow_add,<-e];have f:(wd l m+1)*2^(32*m)<=2^t*2^(32*m):=Nat.mul_le_mul_right _ a;rw[Nat.add_mul]at f;rw[Nat.mul_comm (2^(32*m)) (2^t)];omega
def FH(w:World)(v n:Nat)(e:Ending)(w':World):Prop:=∃N:Nat,e=.returned (.int .i64 (N:Nat))/\v<2^N/\N<=32*n/\w=w'
theorem yC(w:World)(A n c l)(d:Wd w A n c l)(G:n<=1099511627776):
 Calls Tryz.prog 259 #[.slice A n c] w (FH w (val l) n):=by
 have i:=Qh d.2.1;by_cases m:n=0
 ·subst m
  have f:=Qh (show val l=0 by rw[lq i.out.symm];rfl);clear d;go_in;go_wp2;go_ret;exact⟨0,rfl,by rw[f.out];decide,by omega,rfl⟩
 obtain⟨g,o,rfl,C,q⟩:=d.at2 (by omega);have k:=q (n-1) (by omega);have a:=d.lt (n-1);have s:0<n:=by omega
 have y:=Qh d.1;obtain⟨x0,b⟩:∃x,wd l (n-1)=x:=⟨_,rfl⟩;rw[b]at k a;have D:=Qh b;clear q m b d;have B:((n:Int)==0)=false:=by simp;omega
 go_in;go_wp2_with fail;go_loop [3,4] (fun u j=>∃(t x:Nat),t<=32/\u=.int .i64 ((32*(n-1)+t:Nat):Int)/\j=.int .u32 (x:Nat)/\x<4294967296/\x=x0/2^t) (fun _ j=>(intOf j).toNat)
 case atStart=>exact⟨0,x0,by omega,by congr 1;omega,rfl,a,by simp⟩
 case round =>
  obtain⟨t,x,E,rfl,rfl,F,p⟩:=hrel;have f:=Qh p;clear p;by_cases hz:x=0
  ·subst hz
   go_wp2;go_ret;refine⟨32*(n-1)+t,rfl,?_,by omega,rfl⟩
   have r:x0<2^t:=by
    have:=f.out;rcases Nat.lt_or_ge x0 (2^t) with h|h
    ·exact h
    have:=Nat.div_pos h (Nat.pow_pos (by omega));omega
   have:=yA y.out (by rw[<-i.out];exact s) (t:=t) (by rw[<-i.out,D.out];exact r);rwa[<-i.out]at this
  ·have v:t<32:=by
    rcases Nat.lt_or_ge t 32 with h|h
    ·exact h
    exfalso;have e:t=32:=by omega
    have:=f.out;rw[e]at this;have:x=0:=by rw[this];exact Nat.div_eq_of_lt a
    omega
   have z:0<x:=by omega
   go_wp2;go_round
   case rel=>exact⟨t+1,x/2,by omega,by congr 1<;>omega,by congr 1<;>omega,by omega,by rw[f.out,Nat.pow_succ,Nat.div_div_eq_div_mul]⟩
   case measure=>simp[intOf];omega

def CI(w:World)(v:Value)(z:Int)(k:Nat)(e:Ending)(w':World):Prop:=∃b A n c,e=.returned (.tuple #[.agg #[.bool b,.slice A n c],v])/\IV w' b A n c z k/\Below w.heap.size w w'
end Go.Proofs.YtfilnhompchciaaGreatDoor
