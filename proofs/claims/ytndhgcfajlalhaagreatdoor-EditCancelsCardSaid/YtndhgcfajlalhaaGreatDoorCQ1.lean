/- Part CQ1: lemmas and walks that the claim rests on. No claim is made here. -/
import Derived.Below
import Derived.Laws.OwnMore
import Derived.Deep.Draws
import Derived.OneCell
import Derived.Laws.Rows
import Derived.Test.YtndhgcfajlalhaaGreatDoorProg
import Derived.WalkKit
import Derived.WalkSpells
import Derived.WalkLawsBesides
import Derived.BigQuiet
import Derived.Deep.QuietTactic
import Derived.Deep.AppendLies
import Derived.Lib.Hide
import Derived.Deep.RegionHeld3
import Derived.Deep.DrawnRows
import Derived.Shelf.Strings.Builder1
import Derived.Shelf.Strings.Builder2
import Derived.Shelf.Strings.OnBuilder
import Derived.Shelf.Strings.Trim
import Derived.Shelf.Small.Utf8
import Derived.Shelf.Small.Bits
import Derived.Shelf.Small.Strs
import Derived.Shelf.Small.Wraps
import Derived.Shelf.Strings.BuilderF
import Derived.Shelf.Strings.BuilderK
import Derived.Shelf.Strings.Builder2Cap
import Derived.Shelf.Strconv.Atoi
import Derived.Shelf.Strconv.Itoa0
import Derived.Shelf.Strconv.Itoa1
import Derived.Shelf.LaysM
import Derived.Shelf.Strconv.Itoa2
import Derived.Shelf.Strconv.Itoa3
import Derived.Shelf.Strings.Search1
import Derived.Shelf.Strings.Search2
import Derived.Shelf.Strings.Cut
import Derived.Shelf.Strings.Shaped
import Derived.Shelf.Strings.Prefix
import Derived.Shelf.Strings.Runes
import Derived.Shelf.Strings.AsciiSet
import Derived.Shelf.Bits.Mul64
import Derived.Shelf.Strings.Repeat
import Derived.Shelf.Unicode.DecodeSlow
import Derived.Shelf.Strings.BuilderCap
import Derived.IntWalk
import Derived.Deep.DeepCutAuto
import Derived.Deep.RegionHeld
import Derived.Lib.ItoaNum
import Derived.Lib.ItoaMem
import Derived.Lib.Repeat
import Derived.Lib.Join
import Derived.Lib.Atoi
import Derived.Lib.SlTrimSet
import Derived.Lib.AppendIntMem
import Derived.Shelf.Strings.SlTrimAscii
import Derived.Lib.IndexMore
import Derived.Lib.SliceRun
import Derived.Deep.RegionLaw
import Derived.Laws.StructEq
import Derived.Test.YtndhgcfajlalhaaGreatDoorCards
import Derived.Test.YtndhgcfajlalhaaGreatDoorTie
import Derived.ProofKit
import Derived.OpenShut
import Derived.Deep.DeepHandedRow
import Derived.Lib.LaidTab
import Derived.Shelf.Vars
import Derived.Deep.Slices
import Derived.SizedLaws
import Derived.ChangeMaps5
set_option linter.unusedVariables false
set_option maxHeartbeats 8000000
set_option maxRecDepth 100000
namespace Bn
theorem Qh {p : Prop} (h : p) : Go.RowKit.Hid p := h
theorem Qr {a : Nat} : a <= a := Nat.le_refl a
end Bn
namespace Go
theorem Qh {p : Prop} (h : p) : Go.RowKit.Hid p := h
theorem Qr {a : Nat} : a <= a := Nat.le_refl a
end Go
/- Plain numbers in base 2^32: the value of a list of words, the list of words of a number. No program in sight. -/
namespace Go.RowKit
open Go
theorem Below.sc {B:Nat}{a w:World}(h:Below B a w) (g i:Nat) (b:B<=g) (u:Value):Below B a (w.setCell ⟨g,i,none⟩ u):=h.setCell (p:=⟨g,i,none⟩) b u
theorem Below.q1 {w a:World}{o:Obj}(h:Below (w.alloc o).heap.size (w.alloc o) a):Below w.heap.size w a:=((Below.refl _ _).alloc Qr _).trans (h.mono (by simp))
theorem Below.q2 {w a:World}{o b:Obj}(h:Below ((w.alloc o).alloc b).heap.size ((w.alloc o).alloc b) a):Below w.heap.size w a:=(((Below.refl _ _).alloc Qr _).alloc (by simp) _).trans (h.mono (by simp <;> omega))
theorem Below.q3 {w a:World}{o b p:Obj}(h:Below (((w.alloc o).alloc b).alloc p).heap.size (((w.alloc o).alloc b).alloc p) a):Below w.heap.size w a:=((((Below.refl _ _).alloc Qr _).alloc (by simp) _).alloc (by simp <;> omega) _).trans (h.mono (by simp <;> omega))
theorem Below.l1 {w a:World}{o:Obj}(h:Below (w.alloc o).heap.size (w.alloc o) a):w.heap.size+1<=a.heap.size:=by have:=h.size;simp at this;omega
theorem Below.l2 {w a:World}{o b:Obj}(h:Below ((w.alloc o).alloc b).heap.size ((w.alloc o).alloc b) a):w.heap.size+2<=a.heap.size:=by have:=h.size;simp at this;omega
theorem Below.l3 {w a:World}{o b p:Obj}(h:Below (((w.alloc o).alloc b).alloc p).heap.size (((w.alloc o).alloc b).alloc p) a):w.heap.size+3<=a.heap.size:=by have:=h.size;simp at this;omega
theorem fmc {α:Type}{p:α->Prop}{a:α}{l:List α}(h:p a/\∀ x∈l,p x):∀ x∈a::l,p x:=List.forall_mem_cons.2 h
end Go.RowKit
namespace Bn
def Sm (f:Nat->Nat):Nat->Nat
  | 0=>0
  | n+1=>Sm f n+f n*4294967296^n
def wd (l:List Nat) (i:Nat):Nat:=l.getD i 0
def val:List Nat->Nat
  | []=>0
  | x::l=>x+4294967296*val l
def ap (n:Nat):List Nat:=if h:n=0 then [] else n%4294967296::ap (n/4294967296)
termination_by n
decreasing_by omega
def Wds (l:List Nat):Prop:=∀ x∈l,x<4294967296
def aZ (l:List Nat):Prop:=Wds l/\l.getLast?≠some 0

theorem gN (n:Nat):0<4294967296^n:=Nat.pow_pos (by omega)

theorem az:ap 0=[]:=by unfold ap;simp
theorem fJ {n:Nat}(h:n≠0):ap n=n%4294967296::ap (n/4294967296):=by rw [ap];simp [h]

theorem ah (n:Nat):val (ap n)=n:=by
 induction n using Nat.strongRecOn with
 | ind n ih =>
  by_cases h:n=0
  ·subst h;simp [az,val]
  rw [fJ h,val,ih _ (by omega)];omega

theorem bp {n:Nat}:ap n=[] ↔ n=0:=by
 constructor
 ·intro h;have:=ah n;rw [h] at this;simpa [val] using this.symm
 rintro rfl;exact az

theorem eK (n:Nat):Wds (ap n):=by
 induction n using Nat.strongRecOn with
 | ind n ih =>
  by_cases h:n=0
  ·subst h;simp [az,Wds]
  rw [fJ h];intro x a;rcases List.mem_cons.1 a with rfl | a
  ·omega
  exact ih _ (by omega) x a

theorem vf (n:Nat):(ap n).getLast?≠some 0:=by
 induction n using Nat.strongRecOn with
 | ind n ih =>
  by_cases h:n=0
  ·subst h;simp [az]
  rw [fJ h];by_cases h2:n/4294967296=0
  ·rw [h2,az];simp;omega
  have:=ih _ (show n/4294967296<n by omega);have a:ap (n/4294967296)≠[]:=fun e=>h2 (bp.1 e)
  rw [List.getLast?_cons_of_ne_nil a];exact this

theorem dw (n:Nat):aZ (ap n):=⟨eK n,vf n⟩

theorem eL:∀ {l:List Nat},aZ l->ap (val l)=l:=by
 intro l
 induction l with
 | nil=>intro _;simp [val,az]
 | cons x l ih =>
  intro ⟨hw,a⟩;have j:x<4294967296:=hw x (by simp);have b:Wds l:=fun y h=>hw y (by simp [h])
  by_cases he:l=[]
  ·subst he
   simp at a;simp only [val];rw [fJ (by omega)];have c:(x+4294967296*0)%4294967296=x:=by omega
   have f:(x+4294967296*0)/4294967296=0:=by omega
   rw [c,f,az]
  have i:aZ l:=⟨b,by rw [List.getLast?_cons_of_ne_nil he] at a;exact a⟩;have d:=ih i
  have g:val l≠0:=by
   intro e;rw [e,az] at d;exact he d.symm
  simp only [val];rw [fJ (by omega)];have c:(x+4294967296*val l)%4294967296=x:=by omega
  have f:(x+4294967296*val l)/4294967296=val l:=by omega
  rw [c,f,d]

theorem cF {l:List Nat}(h:Wds l):val l<4294967296^l.length:=by
 induction l with
 | nil=>simp [val]
 | cons x l ih =>
  have b:x<4294967296:=h x (by simp);have:=ih (fun y a=>h y (by simp [a]));simp only [val,List.length_cons,Nat.pow_succ];omega

theorem sK {l:List Nat}(h:aZ l) (a:l≠[]):4294967296^(l.length-1)<=val l:=by
 induction l with
 | nil=>exact absurd rfl a
 | cons x l ih =>
  by_cases he:l=[]
  ·subst he
   have:=h.2;simp at this;simp [val];omega
  have c:aZ l:=⟨fun y b=>h.1 y (by simp [b]),by have:=h.2;rw [List.getLast?_cons_of_ne_nil he] at this;exact this⟩;have f:=ih c he;have d:0<l.length:=List.length_pos_iff.2 he;have e:(x::l).length-1=(l.length-1)+1:=by simp;omega
  rw [e,Nat.pow_succ];simp only [val];omega

theorem ay {n k:Nat}(h:n<4294967296^k):(ap n).length<=k:=by
 by_cases h0:n=0
 ·subst h0;simp [az]
 have a:ap n≠[]:=fun e=>h0 (bp.1 e)
 have b:=sK (dw n) a;rw [ah] at b;have c:4294967296^((ap n).length-1)<4294967296^k:=Nat.lt_of_le_of_lt b h;have d:(ap n).length-1<k:=(Nat.pow_lt_pow_iff_right (by omega)).1 c;omega

/-! ### prefix sums -/
theorem bN {l:List Nat}(h:Wds l) (i:Nat):wd l i<4294967296:=by
 unfold wd;by_cases hi:i<l.length
 ·simp [List.getD,hi];exact h _ (List.getElem_mem hi)
 simp [List.getD,List.getElem?_eq_none (Nat.le_of_not_lt hi)]
theorem eM {l:List Nat}{i:Nat}(h:l.length<=i):wd l i=0:=by
 simp [wd,List.getD,List.getElem?_eq_none h]
theorem ma {l:List Nat}{i:Nat}(h:i<l.length):wd l i=l[i]:=by
 simp [wd,List.getD,h]

theorem dN {f g:Nat->Nat}{n:Nat}(h:∀ i,i<n->f i=g i):Sm f n=Sm g n:=by
 induction n with
 | zero=>rfl
 | succ n ih=>simp only [Sm];rw [ih (fun i a=>h i (by omega)),h n (by omega)]

theorem fj {f:Nat->Nat}{n:Nat}(h:∀ i,i<n->f i<4294967296):Sm f n<4294967296^n:=by
 induction n with
 | zero=>simp [Sm]
 | succ n ih =>
  have a:=ih (fun i c=>h i (by omega));have b:=h n (by omega);simp only [Sm,Nat.pow_succ];have:f n*4294967296^n<=4294967295*4294967296^n:=Nat.mul_le_mul_right _ (by omega);omega

theorem qF (f:Nat->Nat) (n:Nat):Sm f (n+1)=f 0+4294967296*Sm (fun i=>f (i+1)) n:=by
 induction n with
 | zero=>simp [Sm]
 | succ n ih =>
  rw [Sm,ih];simp only [Sm,Nat.pow_succ];rw [Nat.mul_add]
  have:f (n+1)*(4294967296^n*4294967296)=4294967296*(f (n+1)*4294967296^n):=by
   rw [Nat.mul_comm (4294967296^n),<- Nat.mul_assoc,Nat.mul_comm (f (n+1)),Nat.mul_assoc]
  omega

theorem fK (l:List Nat):val l=Sm (wd l) l.length:=by
 induction l with
 | nil=>rfl
 | cons x l ih =>
  rw [List.length_cons,qF,val,ih];rfl

theorem bm (l:List Nat) {n:Nat}(h:l.length<=n):Sm (wd l) n=val l:=by
 induction n with
 | zero =>
  have:l=[]:=List.eq_nil_of_length_eq_zero (by omega);subst this;rfl
 | succ n ih =>
  by_cases hn:l.length<=n
  ·rw [Sm,ih hn,eM hn];simp
  have:l.length=n+1:=by omega
  rw [fK,this]

theorem bS (l:List Nat) (i x j:Nat):wd (l.set i x) j=if i=j/\j<l.length then x else wd l j:=by
 simp only [wd,List.getD,List.getElem?_set];by_cases h:i=j
 ·subst h
  by_cases hi:i<l.length
  ·simp [hi]
  simp [hi]
 simp [h]

theorem wds_set {l:List Nat}(h:Wds l) (i:Nat) {x:Nat}(c:x<4294967296):Wds (l.set i x):=by
 intro y b;rcases List.mem_or_eq_of_mem_set b with a | a
 ·exact h y a
 omega

theorem cf (l:List Nat) (i x:Nat) (h:i<l.length):Sm (wd (l.set i x)) (i+1)=Sm (wd l) i+x*4294967296^i:=by
 rw [Sm,bS,if_pos ⟨rfl,h⟩];congr 1;exact dN fun j a=>by rw [bS,if_neg (by omega)]
theorem dx (l:List Nat) (i x n:Nat) (h:i<l.length) (a:i<n):Sm (wd (l.set i x)) n+wd l i*4294967296^i=Sm (wd l) n+x*4294967296^i:=by
 induction n with
 | zero=>omega
 | succ n ih =>
  by_cases he:i=n
  ·subst he
   rw [cf l i x h,Sm];omega
  have:=ih (by omega);rw [Sm,Sm,bS,if_neg (by omega)];omega

/-! ### trimming -/
theorem bR {l:List Nat}(h:Wds l) {n:Nat}(f:n<=l.length) (p:∀ i,n<=i->wd l i=0) (b:n=0\/wd l (n-1)≠0):ap (val l)=l.take n:=by
  have hw:Wds (l.take n):=fun x d=>h x (List.mem_of_mem_take d)
  have a:(l.take n).length=n:=by simp;omega
  have g:val (l.take n)=val l:=by
    rw [fK,a,<- bm l Qr]
    have j:Sm (wd (l.take n)) n=Sm (wd l) n:=dN fun i c=>by
      simp [wd,List.getD,c]
    rw [j]
    have:∀ m,n<=m->Sm (wd l) n=Sm (wd l) m:=by
      intro m q
      induction m with
      | zero => have:n=0:=by omega
                subst this;rfl
      | succ m ih =>
        by_cases he:n=m+1
        · subst he;rfl
        rw [Sm,p m (by omega),ih (by omega)];simp
    exact this _ f
  have k:aZ (l.take n):=by
    refine ⟨hw,?_⟩;rcases b with rfl | b
    · simp
    rw [List.getLast?_eq_getElem?,a];by_cases h0:n=0
    · subst h0;simp
    have:n-1<(l.take n).length:=by omega
    rw [List.getElem?_eq_getElem this];intro e;apply b;rw [ma (by omega)];have o:(l.take n)[n-1]=l[n-1]'(by omega):=by simp
    injection e with e;rw [<- o];exact e
  rw [<- g,eL k]

theorem vg:aZ []:=⟨by simp [Wds],by simp⟩
theorem aZ.last {l:List Nat}(h:aZ l) (a:l≠[]):wd l (l.length-1)≠0:=by
 have b:0<l.length:=List.length_pos_iff.2 a;have:=h.2;rw [List.getLast?_eq_getElem?,List.getElem?_eq_getElem (by omega)] at this;rw [ma (by omega)];intro e;apply this;rw [e]
theorem od {l:List Nat}(h:Wds l):aZ l ↔ (l.length=0\/wd l (l.length-1)≠0):=by
 constructor
 ·intro b
  by_cases he:l=[]
  ·left;simp [he]
  right;exact b.last he
 intro a;have:=bR h (Nat.le_refl l.length) (fun i c=>eM c) a;rw [List.take_length] at this;rw [<- this];exact dw _
end Bn
namespace Bn
/-! ### comparing lists -/
theorem qG (f:Nat->Nat) {m n:Nat}(h:m<=n):Sm f m<=Sm f n:=by
  induction n with
  | zero => have:m=0:=by omega
            subst this;exact Qr
  | succ n ih =>
    by_cases e:m=n+1
    · subst e;exact Qr
    rw [Sm];have:=ih (by omega);omega
theorem xw {f g:Nat->Nat}{i:Nat}(b:∀ j,f j<4294967296) (d:f i<g i):∀ n,i<n->(∀ j,i<j->f j=g j)->Sm f n<Sm g n:=by
 intro n
 induction n with
 | zero=>intro h;omega
 | succ n ih =>
  intro h a;by_cases e:i=n
  ·subst e
   rw [Sm,Sm];have k:=fj (f:=f) (n:=i) (fun j _=>b j);have c:(f i+1)*4294967296^i<=g i*4294967296^i:=Nat.mul_le_mul_right _ d;rw [Nat.add_mul] at c;omega
  rw [Sm,Sm,a n (by omega)];have:=ih (by omega) a;omega
theorem ix {a b:List Nat}(d:Wds a) {i:Nat}(k:wd a i<wd b i) (c:∀ j,i<j->wd a j=wd b j):val a<val b:=by
 have h:=xw (f:=wd a) (g:=wd b) (fun j=>bN d j) k (max (max a.length b.length) (i+1)) (by omega) c;rwa [bm a (by omega),bm b (by omega)] at h
theorem oe {a b:List Nat}(h:∀ j,wd a j=wd b j):val a=val b:=by
 rw [<- bm a (Nat.le_max_left a.length b.length),<- bm b (Nat.le_max_right a.length b.length)];exact dN fun j _=>h j
theorem dC {a b:List Nat}(c:Wds a) (hb:aZ b) (h:a.length<b.length):val a<val b:=by
 have g:=cF c;have d:=sK hb (by rintro rfl;simp at h);have f:4294967296^a.length<=4294967296^(b.length-1):=Nat.pow_le_pow_right (by omega) (by omega);omega
def bH (a b:Nat):Int:=if a<b then -1 else if a=b then 0 else 1
end Bn

/- Roots and greatest common divisors, in plain numbers. -/
namespace Bn
def isq (n:Nat):Nat:=(List.range (n+1)).foldl (fun r k=>if k*k<=n then max r k else r) 0
theorem og (n:Nat):∀ m b,b*b<=n->let r:=(List.range m).foldl (fun r k=>if k*k<=n then max r k else r) b
 r*r<=n/\b<=r/\∀ k,k<m->k*k<=n->k<=r:=by
 intro m
 induction m with
 | zero=>intro b h;simp [h]
 | succ m ih =>
  intro b h;have l:=ih b h;rw [List.range_succ,List.foldl_append];simp only [List.foldl_cons,List.foldl_nil];obtain ⟨i,j,g⟩:=l;by_cases hk:m*m<=n
  ·simp only [hk,if_true]
   refine ⟨?_,by omega,?_⟩
   ·rcases Nat.le_total ((List.range m).foldl (fun r k=>if k*k<=n then max r k else r) b) m with f | f
    ·rw [Nat.max_eq_right f];exact hk
    rw [Nat.max_eq_left f];exact i
   intro k d a;rcases Nat.lt_succ_iff_lt_or_eq.1 d with c | rfl
   ·have:=g k c a;omega
   omega
  simp only [hk,if_false];refine ⟨i,j,?_⟩;intro k d a;rcases Nat.lt_succ_iff_lt_or_eq.1 d with c | rfl
  ·exact g k c a
  exact absurd a hk
theorem CI (n:Nat):isq n*isq n<=n:=(og n (n+1) 0 (by omega)).1
theorem CJ (n:Nat):n<(isq n+1)*(isq n+1):=by
 have h:=(og n (n+1) 0 (by omega)).2.2 (isq n+1);rcases Nat.lt_or_ge n ((isq n+1)*(isq n+1)) with a | a
 ·exact a
 have b:isq n+1<=(isq n+1)*(isq n+1):=Nat.le_mul_of_pos_left _ (by omega);have:=h (by omega) a;unfold isq at this;omega
theorem CK {n r:Nat}(d:r*r<=n) (c:n<(r+1)*(r+1)):isq n=r:=by
 have a:=CI n;have b:=CJ n;rcases Nat.lt_trichotomy (isq n) r with h | h | h
 ·have:(isq n+1)*(isq n+1)<=r*r:=Nat.mul_le_mul h h
  omega
 ·exact h
 have:(r+1)*(r+1)<=isq n*isq n:=Nat.mul_le_mul h h;omega

/-! ### greatest common divisors -/
theorem nL {a b:Nat}(f:a%2=0) (hb:b%2=1):Nat.gcd (a/2) b=Nat.gcd a b:=by
 have c:a=2*(a/2):=by omega
 have d:Nat.Coprime 2 b:=by
  unfold Nat.Coprime;rw [Nat.gcd_rec,hb];simp
 conv=>rhs;rw [c]
 exact (Nat.Coprime.gcd_mul_left_cancel (a/2) d).symm
theorem lJ {a b:Nat}(h:b<=a):Nat.gcd (a-b) b=Nat.gcd a b:=by
 conv=>rhs;rw [<- Nat.sub_add_cancel h]
 rw [Nat.gcd_add_self_left]
end Bn

namespace Bn
structure WD where
  neg:Bool
  mag:List Nat
def WD.ok (a:WD):Bool:=if a.mag=[] then !a.neg else wd a.mag (a.mag.length-1) != 0
def WD.z (a:WD):Int:=if a.ok then (if a.neg then -(val a.mag:Int) else (val a.mag:Int)) else 0
def wh (z:Int):WD:=⟨decide (z<0),ap z.natAbs⟩

def WD.m (a:WD):List Nat:=if a.ok then a.mag else []
def WD.s (a:WD):Bool:=a.ok&&a.neg
def sgn (b:Bool) (n:Nat):Int:=if b then -(n:Int) else n
theorem WD.z_eq (a:WD):a.z=sgn a.s (val a.m):=by
 unfold WD.z WD.s WD.m sgn;cases h:a.ok <;> simp [val]
structure RD where
  neg:Bool
  num:List Nat
  den:List Nat
def last0 (l:List Nat):Bool:=wd l (l.length-1) != 0
def RD.ok (a:RD):Bool :=
  if a.num=[]/\a.den=[] then !a.neg else
    (a.num != []&&a.den != []&&last0 a.num&&last0 a.den&&Nat.gcd (val a.num) (val a.den)==1)
def RD.n (a:RD):Int:=if a.ok&&a.num != [] then (if a.neg then -(val a.num:Int) else (val a.num:Int)) else 0
def RD.d (a:RD):Nat:=if a.ok&&a.num != [] then val a.den else 1
def RD.q (a:RD):Rat:=Rat.divInt a.n a.d
def rd (q:Rat):RD:=⟨decide (q.num<0),ap q.num.natAbs,if q.num=0 then [] else ap q.den⟩

theorem cW {l:List Nat}(h:aZ l):val l=0 ↔ l=[]:=by
 constructor
 ·intro a;have:=eL h;rw [a,az] at this;exact this.symm
 rintro rfl;rfl

theorem WD.ok_canon {a:WD}(hw:Wds a.mag) (h:a.ok=true):aZ a.mag:=by
 rw [od hw];unfold WD.ok at h;by_cases h0:a.mag=[]
 ·left;simp [h0]
 right;simpa [h0] using h
theorem WD.ok_iff {a:WD}(hw:Wds a.mag):a.ok=true ↔ aZ a.mag/\(a.mag=[]->a.neg=false):=by
 constructor
 ·intro h
  refine ⟨WD.ok_canon hw h,fun b=>?_⟩;unfold WD.ok at h;simpa [b] using h
 rintro ⟨c,b⟩;unfold WD.ok;by_cases he:a.mag=[]
 ·simp [he,b he]
 simp [he,c.last he]
theorem Eo (z:Int):(wh z).ok=true:=by
 rw [WD.ok_iff (eK _)];refine ⟨dw _,fun h=>?_⟩;have:z.natAbs=0:=bp.1 h;have:z=0:=by omega
 subst this;rfl
theorem Fz (z:Int):(wh z).z=z:=by
 unfold WD.z;rw [if_pos (Eo z)];unfold wh;simp only [ah,decide_eq_true_eq];split <;> omega
theorem xx (b:Bool) (n:Nat):wh (sgn b n)=⟨b&&decide (0<(ap n).length),ap n⟩:=by
 have e:decide (0<(ap n).length)=decide (n≠0):=by
  rw [decide_eq_decide,List.length_pos_iff,Ne,bp]
 rw [e];unfold wh sgn;cases b
 ·simp
 simp only [if_true,Bool.true_and];rw [show (-(n:Int)).natAbs=n by omega];congr 1;rw [decide_eq_decide];omega
theorem WD.canon_m {a:WD}(hw:Wds a.mag):aZ a.m:=by
 unfold WD.m;cases h:a.ok
 ·simp [vg]
 simpa using WD.ok_canon hw h
theorem iy {l:List Nat}(hw:Wds l) (a:l≠[]):last0 l=true ↔ aZ l:=by
 rw [od hw];unfold last0;have:l.length≠0:=fun e=>a (List.eq_nil_of_length_eq_zero e)
 simp [this]

theorem RD.ok_cases {a:RD}(f:Wds a.num) (hd:Wds a.den) (h:a.ok=true) :
 (a.num=[]/\a.den=[]/\a.neg=false)\/(a.num≠[]/\a.den≠[]/\aZ a.num/\aZ a.den/\Nat.gcd (val a.num) (val a.den)=1):=by
 unfold RD.ok at h;by_cases h0:a.num=[]/\a.den=[]
 ·left
  rw [if_pos h0] at h;exact ⟨h0.1,h0.2,by simpa using h⟩
 right;rw [if_neg h0] at h;simp only [Bool.and_eq_true,bne_iff_ne,beq_iff_eq] at h;obtain ⟨⟨⟨⟨c,b⟩,d⟩,g⟩,i⟩:=h;exact ⟨c,b,(iy f c).1 d,(iy hd b).1 g,i⟩
theorem RD.d_pos {a:RD}(f:Wds a.num) (hd:Wds a.den):0<a.d:=by
 unfold RD.d;split
 ·rename_i h
  simp only [Bool.and_eq_true,bne_iff_ne] at h;rcases RD.ok_cases f hd h.1 with ⟨c,_⟩ | ⟨_,b,_,g,_⟩
  ·exact absurd c h.2
  exact Nat.pos_of_ne_zero fun e=>b ((cW g).1 e)
 omega
theorem RD.cop {a:RD}(f:Wds a.num) (hd:Wds a.den):Nat.gcd a.n.natAbs a.d=1:=by
 unfold RD.n RD.d;by_cases h:(a.ok&&a.num != [])=true
 ·simp only [h,if_true]
  simp only [Bool.and_eq_true,bne_iff_ne] at h;rcases RD.ok_cases f hd h.1 with ⟨c,_⟩ | ⟨_,g,_,i,b⟩
  ·exact absurd c h.2
  split
  ·simpa using b
  simpa using b
 simp [h]
theorem RD.q_num {a:RD}(b:Wds a.num) (hd:Wds a.den):a.q.num=a.n:=by
 have c:=RD.d_pos b hd;unfold RD.q;rw [Rat.num_divInt]
 have:(Int.gcd (a.d:Int) a.n)=1:=by
  rw [Int.gcd_comm];have:=RD.cop b hd;unfold Int.gcd;simpa using this
 rw [this,Int.sign_eq_one_of_pos (by omega)];simp
theorem RD.q_den {a:RD}(b:Wds a.num) (hd:Wds a.den):a.q.den=a.d:=by
 have c:=RD.d_pos b hd;unfold RD.q;rw [Rat.den_divInt]
 have:(Int.gcd (a.d:Int) a.n)=1:=by
  rw [Int.gcd_comm];have:=RD.cop b hd;unfold Int.gcd;simpa using this
 rw [this,if_neg (by omega)];simp

theorem CL (q:Rat):Wds (rd q).num/\Wds (rd q).den:=by
 refine ⟨eK _,?_⟩;unfold rd;simp only;split
 ·simp [Wds]
 exact eK _
theorem mf (q:Rat):(rd q).ok=true:=by
 unfold RD.ok;by_cases h:q.num=0
 ·have e:rd q=⟨false,[],[]⟩:=by unfold rd;simp [h,az]
  rw [e];simp
 have c:(rd q).num=ap q.num.natAbs:=rfl;have hd:(rd q).den=ap q.den:=by unfold rd;simp [h]
 have a:ap q.num.natAbs≠[]:=fun e=>h (by have:=bp.1 e;omega)
 have b:ap q.den≠[]:=fun e=>q.den_nz (bp.1 e)
 rw [c,hd,if_neg (by simp [a])];simp only [Bool.and_eq_true,bne_iff_ne,beq_iff_eq,ah];exact ⟨⟨⟨⟨a,b⟩,(iy (eK _) a).2 (dw _)⟩,(iy (eK _) b).2 (dw _)⟩,q.reduced⟩
theorem FA (q:Rat):(rd q).n=q.num:=by
 unfold RD.n;by_cases h:q.num=0
 ·have e:rd q=⟨false,[],[]⟩:=by unfold rd;simp [h,az]
  rw [e];simp [h]
 have a:(rd q).num≠[]:=fun e=>h (by have:=bp.1 e;omega)
 rw [if_pos (by simp [mf,a])];unfold rd;simp only [ah,decide_eq_true_eq];split <;> omega
theorem FB (q:Rat):(rd q).d=q.den:=by
 unfold RD.d;by_cases h:q.num=0
 ·have e:rd q=⟨false,[],[]⟩:=by unfold rd;simp [h,az]
  have:q=0:=Rat.num_eq_zero.1 h;rw [e];simp [this]
 have a:(rd q).num≠[]:=fun e=>h (by have:=bp.1 e;omega)
 rw [if_pos (by simp [mf,a])];unfold rd;simp [h,ah]
theorem xA (q:Rat):(rd q).q=q:=by
 unfold RD.q;rw [FA,FB];exact Rat.num_divInt_den q
theorem eN {a:RD}(g:Wds a.num) (hd:Wds a.den) (h:a.ok=true):rd a.q=a:=by
 have o:=RD.q_num g hd;have l:=RD.q_den g hd;unfold rd;rw [o,l];rcases RD.ok_cases g hd h with ⟨i,b,c⟩ | ⟨b,c,f,k,p⟩
 ·cases a with
  | mk neg num den =>
   simp only at i b c;subst i;subst b;subst c;simp [RD.n,az]
 cases a with
 | mk neg num den =>
  simp only at *;have j:(RD.ok ⟨neg,num,den⟩&&num != [])=true:=by simp [h,b]
  have r:val num≠0:=fun e=>b ((cW f).1 e)
  have m:RD.n ⟨neg,num,den⟩=if neg then -(val num:Int) else (val num:Int):=by unfold RD.n;simp only [j,if_true]
  have ed:RD.d ⟨neg,num,den⟩=val den:=by unfold RD.d;simp only [j,if_true]
  rw [m,ed]
  cases neg with
  | true =>
   simp only [if_true];rw [if_neg (by omega),show (-(val num:Int)).natAbs=val num by omega,eL f,eL k,decide_eq_true (by omega)]
  | false =>
   simp only [Bool.false_eq_true,if_false];rw [if_neg (by omega),show ((val num:Int)).natAbs=val num by omega,eL f,eL k,decide_eq_false (by omega)]

/-! ### the size of a fraction -/
def Sz (q:Rat) (k:Nat):Prop:=q.num.natAbs<4294967296^k/\q.den<4294967296^k
theorem Sz.mono {q:Rat}{j k:Nat}(h:Sz q j) (a:j<=k):Sz q k :=
 ⟨Nat.lt_of_lt_of_le h.1 (Nat.pow_le_pow_right (by omega) a),Nat.lt_of_lt_of_le h.2 (Nat.pow_le_pow_right (by omega) a)⟩
theorem oh {n d:Int}{k:Nat}(a:n.natAbs<4294967296^k) (hd:d.natAbs<4294967296^k) (c:0<k):Sz (Rat.divInt n d) k:=by
 have b:1<4294967296^k:=Nat.one_lt_pow (by omega) (by omega);constructor
 ·rw [Rat.num_divInt]
  refine Nat.lt_of_le_of_lt ?_ a;rw [Int.natAbs_ediv_of_dvd (Int.dvd_mul_of_dvd_right (Int.gcd_dvd_right _ _)),Int.natAbs_mul];refine Nat.le_trans (Nat.div_le_self _ _) ?_;rcases Int.lt_trichotomy d 0 with h | h | h
  ·rw [Int.sign_eq_neg_one_of_neg h];simp
  ·subst h;simp
  rw [Int.sign_eq_one_of_pos h];simp
 rw [Rat.den_divInt];split
 ·omega
 exact Nat.lt_of_le_of_lt (Nat.div_le_self _ _) hd
end Bn

namespace Bn
theorem kK {n d:Int}(p:n≠0) (hd:0<d) :
 rd (Rat.divInt n d)=⟨decide (n<0),ap (n.natAbs/Nat.gcd n.natAbs d.natAbs),ap (d.natAbs/Nat.gcd n.natAbs d.natAbs)⟩:=by
 have i:Int.gcd d n=Nat.gcd n.natAbs d.natAbs:=by rw [Int.gcd_comm];rfl
 have b:0<Nat.gcd n.natAbs d.natAbs:=Nat.gcd_pos_of_pos_right _ (by omega);have m:(Nat.gcd n.natAbs d.natAbs:Int) ∣ n:=by rw [<- i];exact Int.gcd_dvd_right ..
 have q:(Rat.divInt n d).num=n/(Nat.gcd n.natAbs d.natAbs:Int):=by
  rw [Rat.num_divInt,i,Int.sign_eq_one_of_pos hd,Int.one_mul]
 have o:(Rat.divInt n d).den=d.natAbs/Nat.gcd n.natAbs d.natAbs:=by
  rw [Rat.den_divInt,i,if_neg (by omega)]
 obtain ⟨k,a⟩:=m
 have f:n/(Nat.gcd n.natAbs d.natAbs:Int)=k:=by
  generalize Nat.gcd n.natAbs d.natAbs=g at a b ⊢;rw [a];exact Int.mul_ediv_cancel_left _ (by omega)
 have j:k≠0:=by rintro rfl;simp at a;exact p a
 have c:(k<0) ↔ (n<0):=by
  constructor
  ·intro h
   have:=Int.mul_neg_of_pos_of_neg (show (0:Int)<(Nat.gcd n.natAbs d.natAbs:Int) by omega) h;omega
  intro h;rcases (show k<0\/0<=k by omega) with l | l
  ·exact l
  have:=Int.mul_nonneg (show (0:Int)<=(Nat.gcd n.natAbs d.natAbs:Int) by omega) l;omega
 unfold rd;rw [q,o,f,if_neg j]
 have r:k.natAbs=n.natAbs/Nat.gcd n.natAbs d.natAbs:=by
  have:n.natAbs=Nat.gcd n.natAbs d.natAbs*k.natAbs:=by
   conv=>lhs;rw [a]
   rw [Int.natAbs_mul];simp
  exact (Nat.div_eq_of_eq_mul_right b this).symm
 rw [r];congr 1;simp [c]
theorem ph:rd 0=⟨false,[],[]⟩:=by unfold rd;simp [az]
theorem mg (n d:Int) (h:d≠0):Rat.divInt (-n) (-d)=Rat.divInt n d:=by
 rw [Rat.divInt_eq_divInt_iff (by omega) h]
 grind
theorem vh (q:Rat):q=Rat.divInt q.num q.den:=(Rat.num_divInt_den q).symm
theorem gn (q:Rat):(q.den:Int)≠0:=by have:=q.den_nz;omega
theorem xC (a b:Rat):a+b=Rat.divInt (a.num*b.den+b.num*a.den) (a.den*b.den):=by
 conv=>lhs;rw [vh a,vh b]
 exact Rat.divInt_add_divInt _ _ (gn a) (gn b)
theorem Ep (a:Rat):-a=Rat.divInt (-a.num) a.den:=by
 conv=>lhs;rw [vh a]
 exact Rat.neg_divInt _ _
theorem CM (q:Rat):q.num.sign=if q<0 then -1 else if q=0 then 0 else 1:=by
 by_cases h:q<0
 ·rw [if_pos h]
  have:q.num<0:=by
   rcases (show q.num<0\/0<=q.num by omega) with a | a
   ·exact a
   exact absurd (Rat.num_nonneg.1 a) (Rat.not_le.2 h)
  exact Int.sign_eq_neg_one_of_neg this
 rw [if_neg h];have a:0<=q.num:=Rat.num_nonneg.2 (Rat.not_lt.1 h);by_cases h0:q=0
 ·rw [if_pos h0,h0];rfl
 rw [if_neg h0];have:q.num≠0:=fun e=>h0 (Rat.num_eq_zero.1 e)
 exact Int.sign_eq_one_of_pos (by omega)
theorem Er (a b:Rat):(a.num*b.den<b.num*a.den ↔ a<b)/\(a.num*b.den=b.num*a.den ↔ a=b):=by
 refine ⟨(Rat.lt_iff a b).symm,?_⟩;constructor
 ·intro h
  rw [vh a,vh b];exact (Rat.divInt_eq_divInt_iff (gn a) (gn b)).2 h
 rintro rfl;rfl

/-! ### sizes -/
theorem cP {a b:Int}{i j:Nat}(c:a.natAbs<4294967296^i) (hb:b.natAbs<4294967296^j):(a*b).natAbs<4294967296^(i+j):=by
 rw [Int.natAbs_mul,Nat.pow_add];exact Nat.mul_lt_mul'' c hb
theorem fv {a b:Int}{i:Nat}(c:a.natAbs<4294967296^i) (hb:b.natAbs<4294967296^i):(a+b).natAbs<4294967296^(i+1):=by
 rw [Nat.pow_succ];omega
theorem xD {a b:Rat}{i j:Nat}(c:Sz a i) (hb:Sz b j):Sz (a+b) (i+j+1):=by
 rw [xC];have f:=cP c.1 (b:=(b.den:Int)) (by simpa using hb.2);have d:=cP hb.1 (b:=(a.den:Int)) (by simpa using c.2);rw [Nat.add_comm j i] at d;have g:=cP (a:=(a.den:Int)) (b:=(b.den:Int)) (by simpa using c.2) (by simpa using hb.2);exact oh (fv f d) (Nat.lt_of_lt_of_le g (Nat.pow_le_pow_right (by omega) (by omega))) (by omega)
theorem CN {a:Rat}{i:Nat}(b:Sz a i):Sz (-a) i:=by
 refine ⟨?_,?_⟩
 ·rw [Rat.neg_num];have:=b.1;omega
 have:(-a).den=a.den:=rfl;rw [this];exact b.2
theorem CO {z:Int}{k:Nat}(h:z.natAbs<4294967296^k) (b:0<k):Sz (z:Rat) k:=by
 have a:1<4294967296^k:=Nat.one_lt_pow (by omega) (by omega);exact ⟨by simpa using h,by simpa using a⟩
end Bn

/- Words, integers and fractions in memory: what a value of the program reads as; what keeps it so. -/
namespace Go.Proofs.YtndhgcfajlalhaaGreatDoor
open Go Go.RowKit Bn
attribute [local go_sem ↓] Go.wp_at_zero Go.wp_at_succ

def AL (p:Prop):Prop:=p
def KT (t:TypeId):Bool:=!(t==134
  || t==54
  )
theorem CP:KT 173=true:=by decide
def sL:Value->Bool
  | .bool _=>true
  | .slice _ _ _=>true
  | _=>false
def noU (c:Array Value):Bool:=c.toList.all sL
def fw (w:World) (g:Nat) (cur:Array Value) (fr:Nat × Nat):Prop:=∃ t,(KT t=true\/noU cur=false)/\w.heap[g]?=some (.cells cur t fr)
theorem fw.u32 {w:World}{g:Nat}{cur:Array Value}{fr:Nat × Nat}(h:w.heap[g]?=some (.cells cur 173 fr)):fw w g cur fr:=⟨_,.inl CP,h⟩
class NoU (c:Array Value):Prop where
 h:noU c=true
instance Fx:NoU (List.toArray []):=⟨rfl⟩
instance Es (b:Bool) (l:List Value) [x:NoU (List.toArray l)]:NoU (List.toArray (.bool b::l)):=⟨x.h⟩
instance En (A:Option Addr) (n c:Nat) (l:List Value) [x:NoU (List.toArray l)]:NoU (List.toArray (.slice A n c::l)):=⟨x.h⟩
theorem CQ {c:Array Value}{i:Nat}{v:Value}(h:c[i]?=some v) (a:sL v=false):noU c=false:=by
 unfold noU;rw [List.all_eq_false];exact ⟨v,by rw [Array.mem_toList_iff];exact Array.mem_of_getElem? h,by simp [a]⟩
theorem CR {c:Array Value}{i:Nat}{k:IntKind}{z:Int}(h:c[i]?=some (.int k z)):noU c=false:=CQ h rfl
theorem fw.lt {w:World}{g:Nat}{cur:Array Value}{fr:Nat × Nat}(h:fw w g cur fr):g<w.heap.size:=by obtain ⟨t,_,h⟩:=h;exact lt_of_block h
theorem fw.same {w a:World}{g:Nat}{cur:Array Value}{fr:Nat × Nat}(h:fw w g cur fr) (e:a.heap[g]?=w.heap[g]?):fw a g cur fr:=by obtain ⟨t,b,h⟩:=h;exact ⟨t,b,e.trans h⟩
theorem fw.cell {w:World}{g:Nat}{cur:Array Value}{fr:Nat × Nat}(h:fw w g cur fr) (o:Nat):w.cell? ⟨g,o,none⟩=cur[o]?:=by obtain ⟨t,a,h⟩:=h;simp [World.cell?,h]
def Kp (w w':World):Prop:=∀ (g:Nat) (cur:Array Value) (fr:Nat × Nat),fw w g cur fr->fw w' g cur fr
theorem Kp.refl (w:World):Kp w w:=fun _ _ _ h=>h
theorem Kp.trans {a b c:World}(h:Kp a b) (k:Kp b c):Kp a c:=fun g cur fr x=>k g cur fr (h g cur fr x)
theorem Kp.below {a b c:World}(h:Kp a b) (k:Below b.heap.size b c):Kp a c:=fun g cur fr x=>(h g cur fr x).same (k.block g (h g cur fr x).lt)
theorem Kp.alloc {a b:World}(h:Kp a b) (o:Obj):Kp a (b.alloc o):=fun g cur fr x=>(h g cur fr x).same (Below.heap_alloc _ _ _ (h g cur fr x).lt)
theorem Kp.drew {a b:World}(h:Kp a b):Kp a b.drew:=h
theorem Kp.drewN {a b:World}(h:Kp a b) (n:Nat):Kp a (b.drewN n):=h
theorem fw.ne {w:World}{g f:Nat}{cur c:Array Value}{t:TypeId}{fr d:Nat × Nat}(x:fw w g cur fr) (h:w.heap[f]?=some (.cells c t d)) (i:KT t=false) (j:noU c=true):g≠f:=by
 rintro rfl;obtain ⟨k,a,b⟩:=x;rw [h] at b;injection b with b;injection b with e1 e2;rw [<- e1,<- e2,j,i] at a;rcases a with a | a <;> cases a
theorem Kp.set {a b:World}(h:Kp a b) {p:Addr}{c:Array Value}{t:TypeId}{fr:Nat × Nat}(f:b.heap[p.block]?=some (.cells c t fr)) (i:KT t=false) (j:noU c=true) (u:Value):Kp a (b.setCell p u):=fun g cur d x=>by
 refine (h g cur d x).same ?_;rw [Below.heap_setCell];exact (h g cur d x).ne f i j

def Box (w:World) (g:Nat) (t:TypeId):Prop:=∃ c fr,w.heap[g]?=some (.cells c t fr)/\noU c=true
theorem Box.new (w:World) (c:Array Value) (t:TypeId) (fr:Nat × Nat) (a:noU c=true:=by rfl):Box (w.alloc (.cells c t fr)) w.heap.size t:=⟨c,fr,heap_alloc_new w _,a⟩
theorem Box.alloc {w:World}{g:Nat}{t:TypeId}(h:Box w g t) (o:Obj):Box (w.alloc o) g t:=by
 obtain ⟨c,fr,h,a⟩:=h;exact ⟨c,fr,(Below.heap_alloc w o g (lt_of_block h)).trans h,a⟩
theorem Box.drew {w:World}{g:Nat}{t:TypeId}(h:Box w g t):Box w.drew g t:=h
theorem Box.drewN {w:World}{g:Nat}{t:TypeId}(h:Box w g t) (n:Nat):Box (w.drewN n) g t:=h
theorem AN {c:Array Value}(b:noU c=true) {u:Value}(d:sL u=true) (i:Nat):noU (c.setIfInBounds i u)=true:=by
 unfold noU at b ⊢;rw [Array.toList_setIfInBounds,List.all_eq_true];intro x a;rcases List.mem_or_eq_of_mem_set a with a | rfl
 ·exact List.all_eq_true.1 b x a
 exact d
theorem Box.set {w:World}{g:Nat}{t:TypeId}(h:Box w g t) (p:Addr) (u:Value) (b:sL u=true:=by rfl):Box (w.setCell p u) g t:=by
 obtain ⟨c,fr,h,a⟩:=h;by_cases e:g=p.block
 ·subst e
  refine ⟨if p.spot.isSome then c else c.setIfInBounds p.off u,fr,by simp [World.setCell,Array.getElem?_modify,h],?_⟩;split
  ·exact a
  exact AN a b _
 exact ⟨c,fr,(Below.heap_setCell w p u g e).trans h,a⟩
theorem Box.below {w a:World}{g:Nat}{t:TypeId}(h:Box w g t) (hb:Below w.heap.size w a):Box a g t:=by
 obtain ⟨c,fr,h,b⟩:=h;exact ⟨c,fr,(hb.block g (lt_of_block h)).trans h,b⟩
theorem Box.lt {w:World}{g:Nat}{t:TypeId}(h:Box w g t):g<w.heap.size:=by
 obtain ⟨c,fr,h,_⟩:=h;exact lt_of_block h
theorem fw.neB {w:World}{g a:Nat}{cur:Array Value}{t:TypeId}{fr:Nat × Nat}(x:fw w g cur fr) (h:Box w a t) (b:KT t=false):g≠a:=by
 obtain ⟨c,d,h,f⟩:=h;exact x.ne h b f
theorem Kp.setB {a b:World}(h:Kp a b) {p:Addr}{t:TypeId}(d:Box b p.block t) (f:KT t=false) (u:Value):Kp a (b.setCell p u):=by
 obtain ⟨c,fr,d,g⟩:=d;exact h.set d f g u
theorem Kp.sb {a b:World}(h:Kp a b) (g i:Nat) {t:TypeId}(c:Box b g t) (d:KT t=false) (u:Value):Kp a (b.setCell ⟨g,i,none⟩ u):=h.setB (p:=⟨g,i,none⟩) c d u
def Wd (w:World) (A:Option Addr) (n c:Nat) (l:List Nat):Prop :=
  Wds l/\n=l.length/\n<=c/\(0<n->∃ (g o:Nat) (cur:Array Value) (fr:Nat × Nat),A=some ⟨g,o,none⟩/\fw w g cur fr/\∀ i,i<n->cur[o+i]?=some (.int .u32 (wd l i:Nat)))
theorem Wd.keep {w a:World}{A:Option Addr}{n c:Nat}{l:List Nat}(h:Wd w A n c l) (k:Kp w a):Wd a A n c l :=
 ⟨h.1,h.2.1,h.2.2.1,fun d=>by
  obtain ⟨g,o,cur,fr,e,hb,b⟩:=h.2.2.2 d
  exact ⟨g,o,cur,fr,e,k _ _ _ hb,b⟩⟩
theorem Wd.nil_ (w:World):Wd w none 0 0 []:=⟨by simp [Wds],rfl,Qr,fun h=>absurd h (by omega)⟩
theorem Wd.at_ {w:World}{A:Option Addr}{n c:Nat}{l:List Nat}(h:Wd w A n c l) (d:0<n):∃ g o,A=some ⟨g,o,none⟩/\∀ i,i<n->w.cell? ⟨g,o+i,none⟩=some (.int .u32 (wd l i:Nat)):=by
 obtain ⟨g,o,cur,fr,e,hb,a⟩:=h.2.2.2 d;exact ⟨g,o,e,fun i b=>(hb.cell _).trans (a i b)⟩
theorem Wd.at2 {w:World}{A:Option Addr}{n c:Nat}{l:List Nat}(h:Wd w A n c l) (d:0<n):∃ g o,A=some ⟨g,o,none⟩/\g<w.heap.size/\∀ i,i<n->w.cell? ⟨g,o+i,none⟩=some (.int .u32 (wd l i:Nat)):=by
 obtain ⟨g,o,cur,fr,e,hb,a⟩:=h.2.2.2 d;exact ⟨g,o,e,hb.lt,fun i b=>(hb.cell _).trans (a i b)⟩
theorem Wd.lt {w:World}{A:Option Addr}{n c:Nat}{l:List Nat}(h:Wd w A n c l) (i:Nat):wd l i<4294967296:=bN h.1 i

def IsW (w:World) (v:Value) (a:WD):Prop:=∃ A n c,v=.agg #[.bool a.neg,.slice A n c]/\Wd w A n c a.mag
def IsQ (w:World) (v:Value) (a:RD):Prop:=∃ A n c A' n' c',v=.agg #[.bool a.neg,.slice A n c,.slice A' n' c']/\Wd w A n c a.num/\Wd w A' n' c' a.den
theorem IsW.keep {w b:World}{v:Value}{a:WD}(h:IsW w v a) (k:Kp w b):IsW b v a:=by
 obtain ⟨A,n,c,e,d⟩:=h;exact ⟨A,n,c,e,d.keep k⟩
theorem IsQ.keep {w b:World}{v:Value}{a:RD}(h:IsQ w v a) (k:Kp w b):IsQ b v a:=by
 obtain ⟨A,n,c,j,d,g,e,i,f⟩:=h;exact ⟨A,n,c,j,d,g,e,i.keep k,f.keep k⟩

def fz (w:World) (l:List Nat) (e:Ending) (w':World):Prop:=∃ A n c,e=.returned (.slice A n c)/\Wd w' A n c l/\Below w.heap.size w w'
def ax (w:World) (v:Value) (e:Ending) (w':World):Prop:=e=.returned v/\Below w.heap.size w w'
def gP (w:World) (a:WD) (e:Ending) (w':World):Prop:=∃ A n c,e=.returned (.agg #[.bool a.neg,.slice A n c])/\Wd w' A n c a.mag/\Below w.heap.size w w'
theorem bW {w a:World}{x y:Bool}(h:x=y) (hb:Below w.heap.size w a):ax w (.bool y) (.returned (.bool x)) a:=⟨by rw [h],hb⟩
theorem cM {w a:World}{k:IntKind}{x y:Int}(h:x=y) (hb:Below w.heap.size w a):ax w (.int k y) (.returned (.int k x)) a:=⟨by rw [h],hb⟩
theorem cl {W a:World}(hb:Below W.heap.size W a):(∀ b o,b<W.heap.size->a.cell? ⟨b,o,none⟩=W.cell? ⟨b,o,none⟩)/\(∀ b o,b<W.heap.size->a.frozen? ⟨b,o,none⟩=W.frozen? ⟨b,o,none⟩) :=
 ⟨fun b o h=>hb.cell (p:=⟨b,o,none⟩) h,fun b o h=>hb.frozen (p:=⟨b,o,none⟩) h⟩
theorem af {B:Nat}{a w:World}(h:Below B a w) (n:Nat):Below B a (w.drewN n):=⟨h.os,h.tape,h.output,h.size,h.block⟩
def Blk (w:World) (g:Nat) (t:TypeId) (cs:Array Value):Prop:=w.heap[g]?=some (.cells cs t (0,0))
section
variable {w w':World}{g:Nat}{t:TypeId}{cs:Array Value}
theorem Blk.lt (h:Blk w g t cs):g<w.heap.size:=lt_of_block h
theorem Blk.cell (h:Blk w g t cs) (i:Nat):w.cell? ⟨g,i,none⟩=cs[i]?:=by unfold Blk at h;simp [World.cell?,h]
theorem Blk.frozen (h:Blk w g t cs) (i:Nat):w.frozen? ⟨g,i,none⟩=false:=by unfold Blk at h;simp [World.frozen?,h]
theorem Blk.new (w:World) (t:TypeId) (cs:Array Value):Blk (w.alloc (.cells cs t)) w.heap.size t cs:=heap_alloc_new w _
theorem Blk.drew (h:Blk w g t cs):Blk w.drew g t cs:=h
theorem Blk.drewN (h:Blk w g t cs) (n:Nat):Blk (w.drewN n) g t cs:=h
theorem Blk.alloc (h:Blk w g t cs) (o:Obj):Blk (w.alloc o) g t cs:=(Below.heap_alloc w o g h.lt).trans h
theorem Blk.set_ (h:Blk w g t cs) (i:Nat) (u:Value):Blk (w.setCell ⟨g,i,none⟩ u) g t (cs.setIfInBounds i u):=by
 unfold Blk at h ⊢;simp [World.setCell,Array.getElem?_modify,h]
theorem Blk.far (h:Blk w g t cs) {p:Addr}(a:g≠p.block) (u:Value):Blk (w.setCell p u) g t cs:=(Below.heap_setCell w p u g a).trans h
theorem Blk.below {B:Nat}(h:Blk w g t cs) (hb:Below B w w') (a:g<B):Blk w' g t cs:=(hb.block g a).trans h
theorem Blk.b (h:Blk w g t cs) {v:World}(hb:Below w.heap.size w v):Blk v g t cs:=h.below hb h.lt
theorem Blk.fr (h:Blk w g t cs) (b i:Nat) (a:g≠b) (u:Value):Blk (w.setCell ⟨b,i,none⟩ u) g t cs:=h.far (p:=⟨b,i,none⟩) a u
end
def cellsOf (l:List Nat):Array Value:=(l.map fun x=>Value.int .u32 (x:Nat)).toArray
theorem aB {l:List Nat}{i:Nat}(h:i<l.length):(cellsOf l)[i]?=some (.int .u32 (wd l i:Nat)):=by
 simp [cellsOf,wd,h]
theorem qH (l:List Nat) (i x:Nat):(cellsOf l).setIfInBounds i (.int .u32 (x:Nat))=cellsOf (l.set i x):=by
 simp [cellsOf,List.map_set]
theorem Blk.setW {w:World}{g:Nat}{l:List Nat}(h:Blk w g 173 (cellsOf l)) (i:Nat) (z:Int) (x:Nat) (a:z=x):Blk (w.setCell ⟨g,i,none⟩ (.int .u32 z)) g 173 (cellsOf (l.set i x)):=by
 subst a;rw [<- qH];exact h.set_ i _
theorem Blk.wdN {w:World}{g n:Nat}{l:List Nat}(h:Blk w g 173 (cellsOf l)) (hw:Wds l) (b:l.length=n):Wd w (some ⟨g,0,none⟩) n n l:=by
 subst b;exact ⟨hw,rfl,Qr,fun _=>⟨g,0,_,_,rfl,fw.u32 h,fun i a=>by rw [Nat.zero_add];exact aB a⟩⟩
theorem Blk.wd_ {w:World}{g:Nat}{l:List Nat}(h:Blk w g 173 (cellsOf l)) (hw:Wds l):Wd w (some ⟨g,0,none⟩) l.length l.length l :=
 ⟨hw,rfl,Qr,fun _=>⟨g,0,_,_,rfl,fw.u32 h,fun i a=>by rw [Nat.zero_add];exact aB a⟩⟩

def words (l:List Nat):List Value:=l.map fun x=>Value.int .u32 (x:Nat)
theorem kL {l:List Nat}{i:Nat}(h:i<l.length):(words l)[i]?=some (.int .u32 (wd l i:Nat)):=by
 simp [words,wd,h]
theorem cN (l:List Nat):(words l).length=l.length:=by simp [words]
theorem fL (l:List Nat):∀ u∈words l,u.oneCell'=true:=by
 intro u a;simp only [words,List.mem_map] at a;obtain ⟨x,_,rfl⟩:=a;rfl
theorem Wd.of_own {w:World}{base n cap:Nat}{A:Option Addr}{l:List Nat}(h:w.ownsRow base 173 1 (.slice A n cap) n (words l)) (hw:Wds l):Wd w A n cap l:=by
 have a:n=l.length:=by have:=h.1;rw [cN] at this;omega
 refine ⟨hw,a,?_,fun p=>?_⟩
 ·rcases h.2 with ⟨e,rfl⟩ | ⟨g,c,cur,e,_,_,j,_⟩
  ·omega
  injection e with _ _ e;omega
 rcases h.2 with ⟨e,k⟩ | ⟨g,c,cur,e,_,f,j,_,m,d⟩
 ·omega
 injection e with e1 _ e2;refine ⟨g,0,cur,_,e1,fw.u32 f,fun i o=>?_⟩;have b:(words l)[i]?=some (.int .u32 (wd l i:Nat)):=kL (by omega);rw [<- d,List.getElem?_take,if_pos (by omega)] at b;rw [Nat.zero_add];simpa using b
theorem Wd.news {w:World}{g o n c:Nat}{l:List Nat}(h:Wd w (some ⟨g,o,none⟩) n c l) (m:0<n) {k:Nat}(q:k<=n) :
 ∀ j u,(words (l.take k))[j]?=some u->w.cell? ((⟨g,o,none⟩:Addr).add j)=some u:=by
 intro j u a;obtain ⟨r,s,e,p⟩:=h.at_ m;injection e with e;injection e with e1 e2;subst e1;subst e2;have d:j<(words (l.take k)).length:=(List.getElem?_eq_some_iff.1 a).1;have b:=h.2.1;rw [cN,List.length_take] at d;have i:(words (l.take k))[j]?=some (.int .u32 (wd (l.take k) j:Nat)):=kL (by rw [List.length_take];exact d);rw [i] at a;injection a with a;rw [<- a];have f:wd (l.take k) j=wd l j:=by simp [wd,List.getD,show j<k by omega]
 rw [f,<- p j (by omega)];unfold Addr.add;by_cases hj0:j=0
 ·subst hj0;simp
 simp [hj0]
theorem Wds.take {l:List Nat}(h:Wds l) (k:Nat):Wds (l.take k):=fun x a=>h x (List.mem_of_mem_take a)

theorem gR {w f:World}{b:Bool}{A:Option Addr}{n c:Nat}{a:WD}(hb:b=a.neg) (h:Wd f A n c a.mag) (d:Below w.heap.size w f):gP w a (.returned (.agg #[.bool b,.slice A n c])) f :=
 ⟨A,n,c,by rw [hb],h,d⟩

theorem Blk.wdT {w:World}{g n c:Nat}{l:List Nat}(h:Blk w g 173 (cellsOf l)) (hw:Wds l) (d:n<=l.length) (b:n<=c):Wd w (some ⟨g,0,none⟩) n c (l.take n):=by
 refine ⟨Wds.take hw n,by rw [List.length_take];omega,b,fun _=>⟨g,0,_,_,rfl,fw.u32 h,fun i a=>?_⟩⟩;rw [Nat.zero_add,aB (by omega)];have:wd (l.take n) i=wd l i:=by simp [wd,List.getD,a]
 rw [this]
theorem Blk.grown {w b:World}{g t:Nat}{cs:Array Value}{row:Option Nat}(h:Blk w g t cs) (hb:w.grownBy b row) (c:some g≠row):Blk b g t cs:=(hb.block g h.lt c).trans h
/-! ### All the cells of a block at once, and where it lies -/
theorem Blk.c2 {w:World}{g t:Nat}{a b:Value}(h:Blk w g t #[a,b]):w.cell? ⟨g,0,none⟩=some a/\w.cell? ⟨g,1,none⟩=some b:=⟨h.cell 0,h.cell 1⟩
theorem Blk.f2 {w:World}{g t:Nat}{a b:Value}(h:Blk w g t #[a,b]):w.frozen? ⟨g,0,none⟩=false/\w.frozen? ⟨g,1,none⟩=false:=⟨h.frozen 0,h.frozen 1⟩
theorem Blk.c3 {w:World}{g t:Nat}{a b c:Value}(h:Blk w g t #[a,b,c]):w.cell? ⟨g,0,none⟩=some a/\w.cell? ⟨g,1,none⟩=some b/\w.cell? ⟨g,2,none⟩=some c:=⟨h.cell 0,h.cell 1,h.cell 2⟩
theorem Blk.f3 {w:World}{g t:Nat}{a b c:Value}(h:Blk w g t #[a,b,c]):w.frozen? ⟨g,0,none⟩=false/\w.frozen? ⟨g,1,none⟩=false/\w.frozen? ⟨g,2,none⟩=false:=⟨h.frozen 0,h.frozen 1,h.frozen 2⟩
theorem Blk.c4 {w:World}{g t:Nat}{a b c d:Value}(h:Blk w g t #[a,b,c,d]):w.cell? ⟨g,0,none⟩=some a/\w.cell? ⟨g,1,none⟩=some b/\w.cell? ⟨g,2,none⟩=some c/\w.cell? ⟨g,3,none⟩=some d:=⟨h.cell 0,h.cell 1,h.cell 2,h.cell 3⟩
theorem Blk.f4 {w:World}{g t:Nat}{a b c d:Value}(h:Blk w g t #[a,b,c,d]):w.frozen? ⟨g,0,none⟩=false/\w.frozen? ⟨g,1,none⟩=false/\w.frozen? ⟨g,2,none⟩=false/\w.frozen? ⟨g,3,none⟩=false:=⟨h.frozen 0,h.frozen 1,h.frozen 2,h.frozen 3⟩
theorem Blk.c6 {w:World}{g t:Nat}{b c d f a i:Value}(h:Blk w g t #[b,c,d,f,a,i]):w.cell? ⟨g,0,none⟩=some b/\w.cell? ⟨g,1,none⟩=some c/\w.cell? ⟨g,2,none⟩=some d/\w.cell? ⟨g,3,none⟩=some f/\w.cell? ⟨g,4,none⟩=some a/\w.cell? ⟨g,5,none⟩=some i:=⟨h.cell 0,h.cell 1,h.cell 2,h.cell 3,h.cell 4,h.cell 5⟩
theorem Blk.f6 {w:World}{g t:Nat}{b c d f a i:Value}(h:Blk w g t #[b,c,d,f,a,i]):w.frozen? ⟨g,0,none⟩=false/\w.frozen? ⟨g,1,none⟩=false/\w.frozen? ⟨g,2,none⟩=false/\w.frozen? ⟨g,3,none⟩=false/\w.frozen? ⟨g,4,none⟩=false/\w.frozen? ⟨g,5,none⟩=false:=⟨h.frozen 0,h.frozen 1,h.frozen 2,h.frozen 3,h.frozen 4,h.frozen 5⟩
theorem jh {b H:Nat}(h:b<H):b<H/\b<H+1/\b<H+2/\b<H+3:=by omega
theorem sM {b H:Nat}(h:b+1<H):b+1<H/\b<H/\b<H+1/\b<H+2:=by omega
theorem xE {b H:Nat}(h:b+2<H):b+2<H/\b+1<H/\b<H/\b<H+1:=by omega
theorem F5 {b H:Nat}(h:b+3<H):b+3<H/\b+2<H/\b+1<H/\b<H:=by omega

theorem CS (w:World) (A:Option Addr) (n c:Nat) (l:List Nat) (h:Wd w A n c l) (i:Int) (b:0<=i) (q:n<=4398046511104) :
 Calls Tryz.prog 172 #[.slice A n c,.int .i64 i] w fun e j=>e=.returned (.int .u64 (wd l i.toNat:Nat))/\w=j:=by
 obtain ⟨k,rfl⟩:=Int.eq_ofNat_of_zero_le b;have p:=h.lt k;have a:n=l.length:=h.2.1;by_cases hk:k<n
 ·obtain ⟨g,o,rfl,f⟩:=h.at_ (by omega)
  have m:=f k hk;clear f b;have H:=Qh a;clear a;go_in;go_wp2;go_ret;exact ⟨by simp,rfl⟩
 have d:wd l k=0:=eM (by omega);have H:=Qh d;have r:=Qh a;clear d b a;go_in;go_wp2;go_ret;exact ⟨by simp [H.out],rfl⟩

theorem mh (w:World) (A:Option Addr) (n c:Nat) (l:List Nat) (h:Wd w A n c l) (k x:Nat) (d:wd l k=x) (b:n<=4398046511104) :
 Calls Tryz.prog 172 #[.slice A n c,.int .i64 (k:Nat)] w fun e a=>e=.returned (.int .u64 (x:Nat))/\w=a:=by
 subst d;have:=CS w A n c l h (k:Nat) (by omega) b;simpa using this

theorem xF (w:World) (A:Option Addr) (n c:Nat) (l:List Nat) (h:Wd w A n c l) (k x:Nat) (g:wd l k=x) (f:n<=4398046511104) :
 Calls Tryz.prog 172 #[.slice A n c,.int .i64 (k:Nat)] w fun e d=>e=.returned (.int .u64 (x:Nat))/\d=w :=
 (mh w A n c l h k x g f).mono fun _ _ ⟨a,b⟩=>⟨a,b.symm⟩

theorem dP:(Tryz.prog.info? 173).map (fun i=>(i.zero,i.size,i.bytes))=some (some (.int .u32 0),1,4):=by kernel_rfl

theorem vi (n:Nat):madeCells #[Value.int .u32 0] n=cellsOf (List.replicate n 0):=by
 apply Array.toList_inj.1;rw [toList_madeCells_one];simp [cellsOf,List.map_replicate]
theorem aR (w:World) {ops:Array Oper}{rest:List Oper}{o:Oper}{a:Act}{Q:Exit->Act->World->Prop}
 (q:o.guard=none) (l c:Operand) (d:o.op=Op.makeSlice 52 l c)
 (m k:IntKind) (L C:Int) (n:Nat) (v:a.eval l=.int m L) (s:a.eval c=.int k C) (t:L=(n:Int)) (p:C=(n:Int)) (x:n<=4398046511104)
 (r:wpList Tryz.prog ops Q rest (a.put o.dst (.slice (some ⟨w.heap.size,0,none⟩) n n)) (w.alloc (.cells (cellsOf (List.replicate n 0)) 173))) :
 wpList Tryz.prog ops Q (o::rest) a w:=by
 refine wpList_plain q fun K f=>?_
 obtain ⟨u,j,b,g,h⟩:=info_parts dP;have i:=run_make (P:=Tryz.prog) w 52 173 u (.int .u32 0) Tryz.underlying52 j b m k n n (by omega) (by omega) (by rw [h];omega) (by omega);subst t;subst p;simp only [Int.toNat_natCast,g,Nat.mul_one] at i;have e:(Value.int IntKind.u32 0).cells=#[Value.int IntKind.u32 0]:=rfl;rw [e,vi] at i;unfold Oper.wp;simp [execOp,d,v,s,i,Result.andThen];exact f _ _ r

def tX (l:List Nat) (k:Nat):Prop:=∀ i,k<=i->wd l i=0
theorem fA (w:World) (A:Option Addr) (n c:Nat) (l:List Nat) (h:Wd w A n c l) (W:n<=4398046511104) :
 Calls Tryz.prog 156 #[.slice A n c] w (fz w (ap (val l))):=by
 have B:=Qh h.2.1;have F:n<=c:=h.2.2.1;obtain ⟨N,s,r,u,z⟩:=info_parts dP;go_in;go_wp2;go_loop [3] (fun v=>∃ k:Nat,k<=n/\v=.int .i64 k/\tX l k) (fun v=>(intOf v).toNat)
 case atStart=>exact ⟨n,Qr,rfl,fun i G=>eM (by rw [<- B.out];exact G)⟩
 case round =>
  obtain ⟨k,E,rfl,p⟩:=hrel;by_cases C:k=0
  ·subst C
   have q:=Qh p;clear p;go_wp2;go_ret;refine ⟨none,0,0,rfl,?_,Below.refl _ _⟩;have:=bR h.1 (Nat.zero_le _) q.out (.inl rfl);rw [this];exact Wd.nil_ _
  have T:0<k:=by omega
  obtain ⟨g,o,rfl,I⟩:=h.at_ (by omega);have R:=I (k-1) (by omega);have K:=h.lt (k-1);have q:=Qh p;generalize H:wd l (k-1)=x at *;have J:=Qh H;clear I C p H;by_cases y:x=0
  ·subst y
   go_wp2;go_round
   case rel=>exact ⟨k-1,by omega,by go_num,fun i G=>by
    by_cases he:i=k-1
    ·subst he;exact J.out
    exact q.out i (by omega)⟩
   case measure=>simp [intOf];omega
  have S:((x:Int)==0)=false:=by simp;omega
  have M:((k:Int)==0)=false:=by simp;omega
  have Q:=Qh y;clear y;have f:=World.ownsRow_lit (e:=173) (size:=1) w #[] 0 Qr (by simp [maxLen]) rfl;have a:=(h.keep ((Kp.refl w).alloc (.cells #[] 173))).news (by omega) E;have m:(words (l.take k)).length=k*1:=by rw [cN,List.length_take,<- B.out];omega
  have O:=Qh f;have P:=Qh a;have t:=Qh m;clear f a m;go_wp2_with (at_builtin;refine wpList_append_lies _ rfl _ _ _ rfl w.heap.size 173 N (.int .u32 0) 1 4 Tryz.underlying52 s r u z rfl (by omega) _ 0 [] rfl O.out ⟨g,o,none⟩ k c (words (l.take k)) rfl t.out P.out (fL _) (by omega) (by unfold maxLen;omega) (by omega) (by simp) (w.heap.size+1) (by simp) ?_;intro V cap U d j L D);go_ret;simp only [Nat.zero_add,List.nil_append] at d ⊢;have hd:=bR h.1 (by rw [<- B.out];exact E) q.out (.inr (by rw [J.out];exact Q.out));refine ⟨_,_,_,rfl,?_,?_⟩
  ·rw [hd];exact Wd.of_own d (Wds.take h.1 k)
  exact ((Below.refl _ _).alloc Qr _).grown j (by simp) (fun b hb=>Nat.le_of_eq (Option.some.inj hb))

theorem jE (w:World) (b:Bool) (A:Option Addr) (n c:Nat) (l:List Nat) (h:Wd w A n c l) (v:n<=1099511627776) :
 Calls Tryz.prog 136 #[.agg #[.bool b,.slice A n c]] w (ax w (.bool (WD.ok ⟨b,l⟩))):=by
 have d:=Qh h.2.1;by_cases j:n=0
 ·subst j
  have k:l=[]:=List.eq_nil_of_length_eq_zero d.out.symm;have i:=Qh (show WD.ok ⟨b,l⟩=!b by unfold WD.ok;simp [k]);clear k;go_in;go_wp2;go_ret;exact bW i.out.symm ((Below.refl _ _).alloc Qr _)
 obtain ⟨g,o,rfl,t,p⟩:=h.at2 (by omega);have s:=p (n-1) (by omega);have q:=h.lt (n-1)
 have m:WD.ok ⟨b,l⟩=!decide (wd l (n-1)=0):=by
  have a:l≠[]:=by rintro rfl;have:=d.out;simp at this;omega
  unfold WD.ok;simp only [if_neg a,<- d.out];by_cases hz:wd l (n-1)=0 <;> simp [hz]
 have i:=Qh m;clear m;have r:((n:Int)==0)=false:=by simp;omega
 have u:0<n:=by omega
 clear p j;generalize f:wd l (n-1)=x at *;clear f;go_in;go_wp2;go_ret;refine bW ?_ ((Below.refl _ _).alloc Qr _);rw [i.out];by_cases hz:x=0 <;> simp [hz]

theorem eO (w:World) (b:Bool) (A:Option Addr) (n c:Nat) (l:List Nat) (h:Wd w A n c l) (d:n<=1099511627776) :
 Calls Tryz.prog 120 #[.agg #[.bool b,.slice A n c]] w (fz w (WD.m ⟨b,l⟩)):=by
 cases hk:WD.ok ⟨b,l⟩
 ·have a:=Qh hk
  go_in;go_wp2_with (go_at_call 136;refine (jE _ b A n c l (h.keep ((Kp.refl _).alloc _)) d).mono ?_;rintro e f ⟨rfl,hb⟩);go_ret;refine ⟨none,0,0,rfl,?_,((Below.refl _ _).alloc Qr _).trans (hb.mono (by simp))⟩;unfold WD.m;rw [a.out];exact Wd.nil_ _
 have a:=Qh hk;go_in;go_wp2_with (go_at_call 136;refine (jE _ b A n c l (h.keep ((Kp.refl _).alloc _)) d).mono ?_;rintro e f ⟨rfl,hb⟩;obtain ⟨i,g⟩:=cl hb);go_ret;refine ⟨A,n,c,rfl,?_,((Below.refl _ _).alloc Qr _).trans (hb.mono (by simp))⟩;unfold WD.m;rw [a.out];exact h.keep (((Kp.refl _).alloc _).below hb)

theorem jF (w:World) (b:Bool) (A:Option Addr) (n c:Nat) (l:List Nat) (h:Wd w A n c l) (d:n<=1099511627776) :
 Calls Tryz.prog 121 #[.agg #[.bool b,.slice A n c]] w (ax w (.bool (WD.s ⟨b,l⟩))):=by
 cases hk:WD.ok ⟨b,l⟩
 ·have a:=Qh hk
  go_in;go_wp2_with (go_at_call 136;refine (jE _ b A n c l (h.keep ((Kp.refl _).alloc _)) d).mono ?_;rintro e f ⟨rfl,hb⟩);go_ret;refine bW ?_ (((Below.refl _ _).alloc Qr _).trans (hb.mono (by simp)));unfold WD.s;rw [a.out];rfl
 have a:=Qh hk;go_in;go_wp2_with (go_at_call 136;refine (jE _ b A n c l (h.keep ((Kp.refl _).alloc _)) d).mono ?_;rintro e f ⟨rfl,hb⟩;obtain ⟨i,g⟩:=cl hb);go_ret;refine bW ?_ (((Below.refl _ _).alloc Qr _).trans (hb.mono (by simp)));unfold WD.s;rw [a.out];simp

theorem iA (w:World) (b:Bool) (A:Option Addr) (n c:Nat) (l:List Nat) (h:Wd w A n c l) (j:n<=1099511627776) :
 Calls Tryz.prog 140 #[.bool b,.slice A n c] w (gP w (wh (sgn b (val l)))):=by
 go_in;go_wp2_with (go_at_call 156;refine (fA _ A n c l (h.keep ((Kp.refl _).alloc _)) (Nat.le_trans j (by decide))).mono ?_;rintro e m ⟨i,f,g,rfl,d,hb⟩;obtain ⟨k,o⟩:=cl hb)
 all_goals
  refine bodyPost_ret (v:=.agg #[.bool _,.slice i f g]) (by simp [results,Tryz.results140,go_sem,k];rfl) rfl ?_;rw [xx];have a:=(Box.new w #[.bool false,.slice none 0 0] 134 (0,0)).below hb;refine gR ?_ (d.keep (((Kp.refl _).setB a (by decide) _).setB (a.set _ _) (by decide) _)) ?_
  ·have p:=d.2.1
   simp_all
  exact ((((Below.refl _ _).alloc Qr _).trans (hb.mono (by simp))).setCell (by simp) _).setCell (by simp) _

def Et (l l':List Nat) (k:Nat):Prop:=∀ j,k<=j->wd l j=wd l' j
theorem eF (w:World) (A:Option Addr) (n c:Nat) (l:List Nat) (h:Wd w A n c l) (Y:n<=1099511627776) (P:Option Addr) (B N:Nat) (b:List Nat) (I:Wd w P B N b) (S:B<=1099511627776) (Q:aZ l) (p:aZ b) :
 Calls Tryz.prog 119 #[.slice A n c,.slice P B N] w (ax w (.int .i64 (bH (val l) (val b)))):=by
 have K:=Qh h.2.1;have m:=Qh I.2.1;rcases Nat.lt_trichotomy n B with E | G | H
 ·have D:val l<val b:=dC Q.1 p (by rw [<- K.out,<- m.out];exact E)
  have d:=Qh (show bH (val l) (val b)=-1 by unfold bH;rw [if_pos D]);clear D;go_in;go_wp2;go_ret;exact cM d.out.symm (Below.refl _ _)
 ·subst G
  go_in;go_wp2;go_loopw [5] (fun v wr=>∃ k q:Nat,k<=n/\v=.int .i64 ((k:Int)-1)/\Et l b k/\wr=w.drewN q) (fun v _=>(intOf v+1).toNat)
  case atStart=>exact ⟨n,0,Qr,rfl,fun j t=>by rw [eM (by rw [<- K.out];exact t),eM (by rw [<- m.out];exact t)],rfl⟩
  case round =>
   obtain ⟨k,q,V,rfl,C,rfl⟩:=hrel;by_cases O:k=0
   ·subst O
    have d:=Qh (show bH (val l) (val b)=0 by unfold bH;rw [oe (fun j=>C j (Nat.zero_le _))];simp);clear C;go_wp2;go_ret;exact cM d.out.symm (by repeat (first | exact Below.refl _ _ | refine af ?_ _))
   obtain ⟨g,o,rfl,z⟩:=h.at_ (by omega);obtain ⟨W,X,rfl,s⟩:=I.at_ (by omega);have r:=z (k-1) (by omega);have u:=s (k-1) (by omega);have U:(0:Int)<=(k:Int)-1:=by omega
   have T:(k:Int)-1<(n:Int):=by omega
   have M:=Qh C;have ex:∃ x y,wd l (k-1)=x/\wd b (k-1)=y:=⟨_,_,rfl,rfl⟩;obtain ⟨x,y,L,J⟩:=ex;rw [L] at r;rw [J] at u;have a:=Qh (And.intro L J);clear C z s L J O;have R:((k:Int)-1).toNat=k-1:=by omega
   rcases Nat.lt_trichotomy x y with f | rfl | f
   ·have F:((x:Int) != (y:Int))=true:=by rw [bne_iff_ne];omega
    have d:=Qh (show bH (val l) (val b)=-1 by unfold bH;rw [if_pos (ix h.1 (i:=k-1) (by rw [a.out.1,a.out.2];exact f) (fun j t=>M.out j (by omega)))]);go_wp2_with fail;go_quiet (fail);go_wp2_with fail;go_quiet (fail);go_wp2;go_ret;exact cM d.out.symm (by repeat (first | exact Below.refl _ _ | refine af ?_ _))
   ·go_wp2_with fail
    go_quiet (fail);go_wp2;go_roundw
    case rel=>exact ⟨k-1,_,by omega,by go_num,fun j t=>by
     by_cases hj':j=k-1
     ·subst hj';rw [a.out.1,a.out.2]
     exact M.out j (by omega),rfl⟩
    case measure=>simp [intOf];omega
   have F:((x:Int) != (y:Int))=true:=by rw [bne_iff_ne];omega
   have d:=Qh (show bH (val l) (val b)=1 by
    have:=ix I.1 (i:=k-1) (by rw [a.out.1,a.out.2];exact f) (fun j t=>(M.out j (by omega)).symm)
    unfold bH;rw [if_neg (by omega),if_neg (by omega)])
   go_wp2_with fail;go_quiet (fail);go_wp2_with fail;go_quiet (fail);go_wp2;go_ret;exact cM d.out.symm (by repeat (first | exact Below.refl _ _ | refine af ?_ _))
 have D:val b<val l:=dC p.1 Q (by rw [<- K.out,<- m.out];exact H);have d:=Qh (show bH (val l) (val b)=1 by unfold bH;rw [if_neg (by omega),if_neg (by omega)]);clear D;go_in;go_wp2;go_ret;exact cM d.out.symm (Below.refl _ _)

abbrev Sees (B:Nat) (W0 W:World):Prop:=((∀ b o,b<B->W.cell? ⟨b,o,none⟩=W0.cell? ⟨b,o,none⟩)/\(∀ b o,b<B->W.frozen? ⟨b,o,none⟩=W0.frozen? ⟨b,o,none⟩))/\B<=W.heap.size
theorem Sees.of {B:Nat}{c W:World}(h:B<=c.heap.size) (hb:Below c.heap.size c W):Sees B c W :=
 ⟨⟨fun b o a=>(cl hb).1 b o (Nat.lt_of_lt_of_le a h),fun b o a=>(cl hb).2 b o (Nat.lt_of_lt_of_le a h)⟩,Nat.le_trans h hb.size⟩
theorem bG (w:World) (c:Array Value) (t:TypeId) {g:Nat}(h:g=w.heap.size) (a:noU c=true:=by rfl):Box (w.alloc (.cells c t)) g t:=by subst h;exact Box.new w c t (0,0) a
theorem Sees.set {B:Nat}{c W:World}(h:Sees B c W) {g i:Nat}{u:Value}(d:B<=g):Sees B c (W.setCell ⟨g,i,none⟩ u):=by
 refine ⟨⟨fun b o a=>?_,fun b o a=>?_⟩,?_⟩
 ·rw [<- h.1.1 b o a];unfold World.cell?;rw [Below.heap_setCell _ _ _ b (by show b≠g;omega)]
 ·rw [<- h.1.2 b o a];unfold World.frozen?;rw [Below.heap_setCell _ _ _ b (by show b≠g;omega)]
 have:=h.2;simp [World.setCell];exact this
def xG (w:World) (p:Addr):Value:=(w.cell? p).getD (.bool false)
abbrev ba (R B m:Nat) (W0 W:World):Prop:=((∀ b o,b<R->W.cell? ⟨b,o,none⟩=W0.cell? ⟨b,o,none⟩)/\(∀ b o,b<R->W.frozen? ⟨b,o,none⟩=W0.frozen? ⟨b,o,none⟩)) /\
  (∀ b o,R<=b->b<B->o<m->W.cell? ⟨b,o,none⟩=some (xG W ⟨b,o,none⟩))/\(∀ b o,R<=b->b<B->W.frozen? ⟨b,o,none⟩=false)
theorem cell_isSome {w:World}{p:Addr}:w.cell? p=some (xG w p) ↔ (w.cell? p).isSome=true:=by
 unfold xG;cases w.cell? p <;> simp
abbrev ji (R B m:Nat) (W:World):Prop:=∀ b,R<=b->b<B->∃ c t,Blk W b t c/\c.size=m
theorem ba.of {R B m:Nat}{a W:World}(n:R<=B) (h:B<=a.heap.size) (k:ji R B m a) (hb:Below a.heap.size a W):ba R B m a W:=by
 refine ⟨⟨fun b o d=>(cl hb).1 b o (by omega),fun b o d=>(cl hb).2 b o (by omega)⟩,fun b o g f l=>?_,fun b o g f=>?_⟩
 ·obtain ⟨c,t,i,j⟩:=k b g f
  rw [cell_isSome,(cl hb).1 b o (by omega),i.cell];simp [j,l]
 obtain ⟨c,t,i,j⟩:=k b g f;rw [(cl hb).2 b o (by omega),i.frozen]
theorem lu {w:World}{c:Array Value}{t:TypeId}{R:Nat}(h:R=w.heap.size):ji R (R+1) c.size (w.alloc (.cells c t)):=by
 intro b a d;have:b=w.heap.size:=by omega
 subst this;exact ⟨c,t,Blk.new _ _ _,rfl⟩
theorem Cs {w:World}{c a:Array Value}{t d:TypeId}{R:Nat}(h:R=w.heap.size) (f:c.size=a.size):ji R (R+1+1) a.size ((w.alloc (.cells c t)).alloc (.cells a d)):=by
 intro b i g;by_cases e:b=w.heap.size
 ·subst e;exact ⟨c,t,(Blk.new _ _ _).alloc _,f⟩
 have:b=(w.alloc (.cells c t)).heap.size:=by simp;omega
 subst this;exact ⟨a,d,Blk.new _ _ _,rfl⟩
theorem nM {w:World}{p q:Addr}{u:Value}(h:(w.cell? p).isSome=true) (a:p.spot=none):((w.setCell q u).cell? p).isSome=true:=by
 obtain ⟨b,o,s⟩:=p;simp only at a;subst a;unfold World.cell? at h ⊢;by_cases e:b=q.block
 ·subst e
  simp only [World.setCell,Array.getElem?_modify,if_true] at h ⊢
  cases hh:w.heap[q.block]? with
  | none=>rw [hh] at h;simp at h
  | some ob =>
   rw [hh] at h;cases ob <;> simp_all;split <;> simp_all
 rw [Below.heap_setCell w q u b e];exact h
theorem ba.set {R B m:Nat}{f W:World}(h:ba R B m f W) {g i:Nat}{u:Value}(k:R<=g):ba R B m f (W.setCell ⟨g,i,none⟩ u):=by
 refine ⟨⟨fun b o a=>?_,fun b o a=>?_⟩,fun b o d c j=>?_,fun b o d c=>?_⟩
 ·rw [<- h.1.1 b o a];unfold World.cell?;rw [Below.heap_setCell _ _ _ b (by show b≠g;omega)]
 ·rw [<- h.1.2 b o a];unfold World.frozen?;rw [Below.heap_setCell _ _ _ b (by show b≠g;omega)]
 ·rw [cell_isSome];exact nM (cell_isSome.1 (h.2.1 b o d c j)) rfl
 rw [World.frozen?_setCell];exact h.2.2 b o d c
theorem aj {a b c:World}(h:Below a.heap.size a b) (hb:Below b.heap.size b c):Below a.heap.size a c:=h.trans (hb.mono h.size)
theorem ae (a:World):Below a.heap.size a a:=Below.refl _ _
theorem Wd.belw {w a:World}{A:Option Addr}{n c:Nat}{l:List Nat}(h:Wd w A n c l) (hb:Below w.heap.size w a):Wd a A n c l:=h.keep ((Kp.refl w).below hb)
theorem Wd.belB {B:Nat}{w a:World}{A:Option Addr}{n c:Nat}{l:List Nat}(h:Wd w A n c l) (hb:Below B w a) (hB:B=w.heap.size):Wd a A n c l:=by subst hB;exact h.belw hb
theorem kp2 {w:World}{g:Nat}{t:TypeId}(x:Box w g t) (a:KT t=false) (i j:Nat) (u v:Value):Kp w ((w.setCell ⟨g,i,none⟩ u).setCell ⟨g,j,none⟩ v) :=
 fun b _ _ y=>y.same ((Below.heap_setCell _ _ v b (y.neB x a)).trans (Below.heap_setCell w _ u b (y.neB x a)))
theorem pk {w:World}{A:Option Addr}{n c:Nat}{l:List Nat}{i:Option Addr}{a j:Nat}{d:List Nat}(h:Wd w A n c l) (g:Wd w i a j d) (k:aZ l) (b:aZ d) (m:val l<=val d):n<=a:=by
 rcases Nat.lt_or_ge a n with f | f
 ·have:=dC b.1 k (by rw [<- h.2.1,<- g.2.1];exact f)
  omega
 exact f
theorem WD.m_len (a:WD):a.m.length<=a.mag.length:=by unfold WD.m;split <;> simp
theorem Wd.m_len {w:World}{A:Option Addr}{n c:Nat}{b:Bool}{l:List Nat}(h:Wd w A n c (WD.m ⟨b,l⟩)) {N:Nat}(hN:l.length<=N):n<=N:=by
 rw [h.2.1];exact Nat.le_trans (WD.m_len _) hN
theorem xH {a b:WD}(h:a.s=b.s):a.z+b.z=sgn a.s (val a.m+val b.m):=by
 rw [a.z_eq,b.z_eq,<- h];cases a.s <;> simp [sgn];omega
theorem xI {a b:WD}(h:a.s≠b.s) (c:val b.m<=val a.m):a.z+b.z=sgn a.s (val a.m-val b.m):=by
 rw [a.z_eq,b.z_eq];cases ha:a.s <;> cases hb:b.s <;> simp_all [sgn] <;> omega
theorem xJ {a b:WD}(h:a.s≠b.s) (c:val a.m<=val b.m):a.z+b.z=sgn b.s (val b.m-val a.m):=by
 rw [a.z_eq,b.z_eq];cases ha:a.s <;> cases hb:b.s <;> simp_all [sgn] <;> omega
theorem pl {x n N:Nat}(h:x<4294967296^n) (hN:n<=N):(ap x).length<=N:=Nat.le_trans (ay h) hN
theorem Wd.vlt {w:World}{A:Option Addr}{n c:Nat}{l:List Nat}(h:Wd w A n c l) {N:Nat}(hN:n<=N):val l<4294967296^N :=
 Nat.lt_of_lt_of_le (cF h.1) (Nat.pow_le_pow_right (by omega) (by have:=h.2.1;omega))
theorem sN {x y n:Nat}(b:x<4294967296^n) (a:y<4294967296^n):x+y<4294967296^(n+1):=by rw [Nat.pow_succ];omega
theorem qI {w:World}{A:Option Addr}{n c:Nat}{l:List Nat}{g:Option Addr}{b i:Nat}{d:List Nat}{N M:Nat}(h:Wd w A n c l) (f:Wd w g b i d) (k:n<=N) (a:b<=N) (j:N+1<=M):(ap (val l+val d)).length<=M :=
 pl (sN (h.vlt k) (f.vlt a)) j
theorem oi {w:World}{A:Option Addr}{n c:Nat}{l:List Nat}{f:Option Addr}{a g:Nat}{b:List Nat}{M:Nat}(h:Wd w A n c l) (d:Wd w f a g b) (i:n+a<=M):(ap (val l*val b)).length<=M :=
 pl (Nat.lt_of_lt_of_eq (Nat.mul_lt_mul'' (h.vlt Qr) (d.vlt Qr)) (Nat.pow_add _ _ _).symm) i
theorem cZ (w:World) (b:Bool) (A:Option Addr) (n c:Nat) (l:List Nat) (z:Int) (h:Wd w A n c l) (a:n<=1099511627776) (d:sgn b (val l)=z) :
 Calls Tryz.prog 140 #[.bool b,.slice A n c] w (gP w (wh z)):=by subst d;exact iA w b A n c l h a
theorem lK {a b:Nat}:(0<=bH a b)=(b<=a):=by
 unfold bH;split
 ·simp;omega
 split <;> simp <;> omega
end Go.Proofs.YtndhgcfajlalhaaGreatDoor
namespace Bn
theorem split_mul (s P:Nat):s%4294967296*P+s/4294967296*(P*4294967296)=s*P:=by
 have h:=Nat.div_add_mod s 4294967296
 have e:s/4294967296*(P*4294967296)=(4294967296*(s/4294967296))*P:=by
  rw [Nat.mul_comm P,<- Nat.mul_assoc,Nat.mul_comm (s/4294967296)]
 rw [e,<- Nat.add_mul,Nat.add_comm,h]

theorem iB {O A C c x y P:Nat}(h:O+c*P=A+C):(O+(c+x+y)%4294967296*P)+(c+x+y)/4294967296*(P*4294967296)=(A+x*P)+(C+y*P):=by
 have:=split_mul (c+x+y) P;rw [Nat.add_mul,Nat.add_mul] at this;omega

theorem mi {T a R c x y o Sb P Pi Pk:Nat}(h:T+c*P=R+x*Sb*Pi) (b:P=Pi*Pk) (f:a+o*P=T+(c+x*y+o)%4294967296*P) :
 a+(c+x*y+o)/4294967296*(P*4294967296)=R+x*(Sb+y*Pk)*Pi:=by
 have d:=split_mul (c+x*y+o) P;rw [Nat.add_mul,Nat.add_mul] at d
 have e:x*(Sb+y*Pk)*Pi=x*Sb*Pi+x*y*P:=by
  subst b;grind
 rw [e];omega

theorem kM {O A C b x y a l P:Nat}(h:O+C=A+b*P) (c:l+y+b=x+a*4294967296):(O+l*P)+(C+y*P)=(A+x*P)+a*(P*4294967296):=by
 have e:a*(P*4294967296)=(a*4294967296)*P:=by grind
 have:(l+y+b)*P=(x+a*4294967296)*P:=by rw [c]
 rw [Nat.add_mul,Nat.add_mul,Nat.add_mul] at this;rw [e];omega

theorem sO {a V r b U:Nat}(h:U=b*V+r):a+4294967296*U=b*((r*4294967296+a)/b+4294967296*V)+(r*4294967296+a)%b:=by
 have:=Nat.div_add_mod (r*4294967296+a) b;rw [h,Nat.mul_add,Nat.mul_add];have e:b*(4294967296*V)=4294967296*(b*V):=by grind
 rw [e];omega

/-! ### Knuth's division -/
theorem xK {P v q top head D low third:Nat}(f:P=head*D+third) (h:third<D) (c:v=top*D+low) (b:q*v<=P) (a:0<top):q<=head/top:=by
 rw [Nat.le_div_iff_mul_le a]
 have g:q*top*D<=P:=by
  rw [c,Nat.mul_add] at b;have:q*(top*D)=q*top*D:=by grind
  omega
 have d:q*top*D<(head+1)*D:=by rw [Nat.add_mul];omega
 have:=Nat.lt_of_mul_lt_mul_right d;omega
end Bn
namespace Bn
theorem xM {P v q top next head D low third d b a rest:Nat}(p:P=head*(D*4294967296)+d*D+b) (k:b<D) (i:v=top*(D*4294967296)+next*D+low)
 (f:a*top+rest=head) (g:q*v<=P) (c:rest*4294967296+d<a*next):q<a:=by
 have _:=third;rcases Nat.lt_or_ge q a with h | h
 ·exact h
 exfalso;have m:a*v<=P:=Nat.le_trans (Nat.mul_le_mul_right v h) g;have j:a*v=a*top*(D*4294967296)+a*next*D+a*low:=by rw [i];grind
 have o:(rest*4294967296+d+1)*D<=a*next*D:=Nat.mul_le_mul_right D c;have l:head*(D*4294967296)=a*top*(D*4294967296)+rest*(D*4294967296):=by rw [<- f,Nat.add_mul]
 have n:(rest*4294967296+d+1)*D=rest*(D*4294967296)+d*D+D:=by grind
 omega

theorem xN {P v q top next head D low c d a rest:Nat}(y:P=head*(D*4294967296)+c*D+d) (o:v=top*(D*4294967296)+next*D+low) (k:low<D)
 (m:a*top+rest=head) (p:P<(q+1)*v) (g:0<top) (f:a<=4294967296) (j:next<4294967296)
 (b:4294967296<=rest\/a*next<=rest*4294967296+c):a<=q+1:=by
 have i:a*next<=rest*4294967296+c:=by
  rcases b with h | h
  ·have n:a*next<=4294967296*next:=Nat.mul_le_mul_right _ f
   have l:4294967296*next<=4294967296*4294967296:=Nat.mul_le_mul_left _ (by omega);omega
  exact h
 rcases Nat.lt_or_ge (q+1) a with h | h
 ·exfalso
  have n:(q+1+1)*v<=a*v:=Nat.mul_le_mul_right v h;have l:a*v=a*top*(D*4294967296)+a*next*D+a*low:=by rw [o];grind
  have w:a*next*D<=(rest*4294967296+c)*D:=Nat.mul_le_mul_right D i;have r:head*(D*4294967296)=a*top*(D*4294967296)+rest*(D*4294967296):=by rw [<- m,Nat.add_mul]
  have t:(rest*4294967296+c)*D=rest*(D*4294967296)+c*D:=by grind
  have x:a*low<=4294967296*low:=Nat.mul_le_mul_right _ f;have s:(q+1+1)*v=(q+1)*v+v:=by grind
  have u:1*(D*4294967296)<=top*(D*4294967296):=Nat.mul_le_mul_right _ g;omega
 exact h

theorem qJ {top head a rest:Nat}(b:head<(top+1)*4294967296) (f:a*top+rest=head) (c:4294967296<=a):rest<4294967296:=by
 rcases Nat.lt_or_ge rest 4294967296 with h | h
 ·exact h
 exfalso;have d:4294967296*top<=a*top:=Nat.mul_le_mul_right _ c;rw [Nat.add_mul] at b;omega
end Bn

/- Walks: sums, differences and products of lists of words. -/
namespace Go.Proofs.YtndhgcfajlalhaaGreatDoor
open Go Go.RowKit Bn
attribute [local go_sem ↓] Go.wp_at_zero Go.wp_at_succ

def xO (l l' L:List Nat) (i:Nat) (cr:Nat):Prop:=Wds L/\Sm (wd L) i+cr*4294967296^i=Sm (wd l) i+Sm (wd l') i
theorem sQ (w:World) (A n c l) (q:Wd w A n c l) (hn:n<=1099511627776) (A' n' c' l') (m:Wd w A' n' c' l') (Q:n'<=1099511627776) :
 Calls Tryz.prog 141 #[.slice A n c,.slice A' n' c'] w (fz w (ap (val l+val l'))):=by
 have F:=Qh q.2.1;have g:=Qh m.2.1;obtain ⟨M,C⟩:∃ M,M=max n n'+1:=⟨_,rfl⟩;have j:=Qh C;have O:n<M:=by omega
 have R:n'<M:=by omega
 have K:M<=1099511627777:=by omega
 clear C;go_in;go_wp2_with (at_make;refine aR _ rfl _ _ rfl _ _ _ _ M rfl rfl (by have:=j.out;omega) (by have:=j.out;omega) (by omega) ?_)
 all_goals
  go_loopw [6,17] (fun N v wr=>∃ (k d:Nat) (L:List Nat),k<=M/\v=.int .i64 (k:Nat)/\N=.int .u64 (d:Nat)/\d<=1/\L.length=M/\xO l l' L k d/\Blk wr w.heap.size 173 (cellsOf L)/\Below w.heap.size w wr) (fun _ v _=>M-(intOf v).toNat)
  case atStart=>exact ⟨0,0,List.replicate M 0,Nat.zero_le _,rfl,rfl,by omega,by simp,⟨by intro x h;rw [List.eq_of_mem_replicate h];omega,by simp [Sm]⟩,Blk.new _ _ _,(Below.refl _ _).alloc Qr _⟩
  case round =>
   obtain ⟨k,d,L,Y,rfl,rfl,T,i,D,hB,a⟩:=hrel;have f:=Qh ((Kp.refl w).below a);have r:=Qh D;have o:=Qh hB;have b:=Qh i;clear D hB i;by_cases hkM:k<M
   ·obtain ⟨x,y,h,u⟩:∃ x y,wd l k=x/\wd l' k=y:=⟨_,_,rfl,rfl⟩
    have P:x<4294967296:=by rw [<- h];exact q.lt k
    have J:y<4294967296:=by rw [<- u];exact m.lt k
    have H:=Qh h;have E:=Qh u;have z:=o.out.cell k;rw [aB (by rw [b.out];exact hkM)] at z;have S:=o.out.frozen k;clear h u
    go_wp2_with (first
     | (go_at_call 172;(with_reducible refine (mh _ A n c l ?_ k x H.out (by omega)).mono ?_);exact q.keep f.out;rintro e I ⟨rfl,rfl⟩)
     | (go_at_call 172;(with_reducible refine (mh _ A' n' c' l' ?_ k y E.out (by omega)).mono ?_);exact m.keep f.out;rintro e I ⟨rfl,rfl⟩))
    go_roundw
    case rel =>
     have t:=iB (x:=x) (y:=y) r.out.2;refine ⟨k+1,(d+x+y)/4294967296,L.set k ((d+x+y)%4294967296),by omega,by go_num,by go_num,by omega,by rw [List.length_set];exact b.out,⟨wds_set r.out.1 _ (Nat.mod_lt _ (by omega)),?_⟩,o.out.setW k _ _ (by omega),a.setCell Qr _⟩;rw [cf _ _ _ (by rw [b.out];exact hkM),Sm,Sm,H.out,E.out,Nat.pow_succ];exact t
    case measure=>simp [intOf];omega
   have s:k=M:=by omega
   subst s
   have G:val L=val l+val l':=by
    have p:=r.out.2;have W:=cF q.1;have h3:=cF m.1;rw [bm L (by rw [b.out];exact Qr),bm l (by rw [<- F.out];omega),bm l' (by rw [<- g.out];omega)] at p;have Z:4294967296^l.length<=4294967296^(k-1):=Nat.pow_le_pow_right (by omega) (by rw [<- F.out];have:=j.out;omega);have h5:4294967296^l'.length<=4294967296^(k-1):=Nat.pow_le_pow_right (by omega) (by rw [<- g.out];have:=j.out;omega);have h6:4294967296^k=4294967296^(k-1)*4294967296:=by rw [<- Nat.pow_succ];congr 1;omega
    rcases (show d=0\/d=1 by omega) with rfl | rfl
    ·omega
    omega
   have U:=Qh G;clear G;go_wp2_with fail;refine (fA _ _ k k L ?_ ?_).mono ?_
   ·exact o.out.wdN r.out.1 b.out
   ·omega
   rintro e V ⟨X,n1,c1,rfl,p,B⟩;go_wp2;go_ret;rw [U.out] at p;exact ⟨_,_,_,rfl,p,a.trans (B.mono a.size)⟩

theorem oj {x y a:Nat}(j:x<4294967296) (i:y<4294967296) (g:a<=1) {d1 d2:Int}(f:IntKind.u64.wrap ((x:Int)-(y:Int))=d1) (d:IntKind.u64.wrap (d1-(a:Int))=d2) :
 ∃ b c:Nat,b<=1/\c<4294967296/\d2/9223372036854775808=(b:Int)/\d2%4294967296=(c:Int)/\c+y+a=x+b*4294967296:=by
 rw [IntKind.wrap_u64] at f d;by_cases h:y+a<=x
 ·refine ⟨0,x-y-a,by omega,by omega,by omega,by omega,by omega⟩
 refine ⟨1,4294967296+x-y-a,by omega,by omega,by omega,by omega,by omega⟩
def xP (l l' L:List Nat) (i:Nat) (br:Nat):Prop:=Wds L/\Sm (wd L) i+Sm (wd l') i=Sm (wd l) i+br*4294967296^i
theorem sR (w:World) (A n c l) (I:Wd w A n c l) (hn:n<=1099511627776) (A' n' c' l') (C:Wd w A' n' c' l') (ad:n'<=n) (S:val l'<=val l) :
 Calls Tryz.prog 142 #[.slice A n c,.slice A' n' c'] w (fz w (ap (val l-val l'))):=by
 have W:=Qh I.2.1;have N:=Qh C.2.1;have HV:=Qh S;clear S;go_in;go_wp2_with (at_make;refine aR _ rfl _ _ rfl _ _ _ _ n rfl rfl (by omega) (by omega) (by omega) ?_);go_loopw [6,14] (fun cv G wr=>∃ (k f:Nat) (L:List Nat),k<=n/\G=.int .i64 (k:Nat)/\cv=.int .u64 (f:Nat)/\f<=1/\L.length=n/\xP l l' L k f/\Blk wr w.heap.size 173 (cellsOf L)/\Below w.heap.size w wr) (fun _ G _=>n-(intOf G).toNat)
 case atStart=>exact ⟨0,0,List.replicate n 0,Nat.zero_le _,rfl,rfl,by omega,by simp,⟨by intro x h;rw [List.eq_of_mem_replicate h];omega,by simp [Sm]⟩,Blk.new _ _ _,(Below.refl _ _).alloc Qr _⟩
 case round =>
  obtain ⟨k,f,L,hk,rfl,rfl,K,q,T,hB,a⟩:=hrel;have p:=Qh ((Kp.refl w).below a);have r:=Qh T;have t:=Qh hB;have b:=Qh q;clear T hB q;by_cases hkM:k<n
  ·obtain ⟨g,o,rfl,Z,s⟩:=(I.keep p.out).at2 (by omega)
   have z:=s k hkM;obtain ⟨x,y,h,M⟩:∃ x y,wd l k=x/\wd l' k=y:=⟨_,_,rfl,rfl⟩;have J:x<4294967296:=by rw [<- h];exact I.lt k
   have v:y<4294967296:=by rw [<- M];exact C.lt k
   rw [h] at z;have HX:=Qh h;have R:=Qh M;have H:=t.out.cell k;rw [aB (by rw [b.out];exact hkM)] at H;have X:=t.out.frozen k;clear h M s;have ac:(0:Int)<=(k:Int):=by omega
   have ab:(k:Int)<(n:Int):=by omega
   have Y:IntKind.u64.wrap (x:Int)=(x:Int):=IntWalk.u64_in _ ⟨by omega,by omega⟩;obtain ⟨d1,m⟩:∃ d,IntKind.u64.wrap ((x:Int)-(y:Int))=d:=⟨_,rfl⟩;obtain ⟨d2,i⟩:∃ d,IntKind.u64.wrap (d1-(f:Int))=d:=⟨_,rfl⟩;have U:=Qh (And.intro m i);go_wp2_with fail;go_quiet ((go_at_call 172;exact Calls.quiet_of_same (xF _ A' n' c' l' ((C.keep p.out).keep ((Kp.refl _).drewN _)) k y R.out (by omega))));clear m i Y;go_wp2;obtain ⟨b',lo,O,F,P,E,hs⟩:=oj J v K U.out.1 U.out.2;go_roundw
   case rel =>
    refine ⟨k+1,b',L.set k lo,by omega,by go_num,by rw [P],O,by rw [List.length_set];exact b.out,⟨wds_set r.out.1 _ F,?_⟩,?_,?_⟩
    ·rw [cf _ _ _ (by rw [b.out];exact hkM),Sm,Sm,HX.out,R.out,Nat.pow_succ]
     exact kM r.out.2 hs
    ·exact (t.out.drewN _).setW k _ _ E
    exact (af a _).setCell Qr _
   case measure=>simp [intOf];omega
  have B:k=n:=by omega
  subst B
  have j:val L=val l-val l':=by
   have u:=r.out.2;have V:=cF r.out.1;have h3:=HV.out;rw [b.out] at V;rw [bm L (by rw [b.out];exact Qr),bm l (by rw [<- W.out];omega),bm l' (by rw [<- N.out];omega)] at u;rcases (show f=0\/f=1 by omega) with rfl | rfl
   ·omega
   omega
  have D:=Qh j;clear j;go_wp2_with fail;refine (fA _ _ k k L ?_ ?_).mono ?_
  ·exact t.out.wdN r.out.1 b.out
  ·omega
  rintro e w1 ⟨A1,n1,c1,rfl,u,Q⟩;go_wp2;go_ret;rw [D.out] at u;exact ⟨_,_,_,rfl,u,a.trans (Q.mono a.size)⟩

theorem Eu (w:World) (b:Bool) (A n c l) (d:Wd w A n c l) (hn:n<=1099511627000) (u:Bool) (A' n' c' l') (g:Wd w A' n' c' l') (ab:n'<=1099511627000) :
 Calls Tryz.prog 99 #[.agg #[.bool b,.slice A n c],.agg #[.bool u,.slice A' n' c']] w (gP w (wh (WD.z ⟨b,l⟩+WD.z ⟨u,l'⟩))):=by
 have HL:=Qh d.2.1;have ac:=Qh g.2.1;go_in;go_wp2_with fail;have b0:Below w.heap.size w (((w.alloc (.cells #[.bool b,.slice A n c] 134)).alloc (.cells #[.bool u,.slice A' n' c'] 134)).alloc (.cells #[.bool false,.slice none 0 0] 134)):=((((Below.refl _ _).alloc Qr _).alloc (by simp) _).alloc (by simp;omega) _);generalize h:(((w.alloc (.cells #[.bool b,.slice A n c] 134)).alloc (.cells #[.bool u,.slice A' n' c'] 134)).alloc (.cells #[.bool false,.slice none 0 0] 134))=W0 at b0 ⊢;have a1:W0.cell? ⟨w.heap.size,0,none⟩=some (.bool b):=by subst h;simp [go_sem]
 have ao:W0.frozen? ⟨w.heap.size,0,none⟩=false:=by subst h;simp [go_sem]
 have a3:W0.cell? ⟨w.heap.size,1,none⟩=some (.slice A n c):=by subst h;simp [go_sem]
 have a0:W0.frozen? ⟨w.heap.size,1,none⟩=false:=by subst h;simp [go_sem]
 have al:W0.cell? ⟨w.heap.size+1,0,none⟩=some (.bool u):=by subst h;simp [go_sem]
 have aC:W0.frozen? ⟨w.heap.size+1,0,none⟩=false:=by subst h;simp [go_sem]
 have aS:W0.cell? ⟨w.heap.size+1,1,none⟩=some (.slice A' n' c'):=by subst h;simp [go_sem]
 have an:W0.frozen? ⟨w.heap.size+1,1,none⟩=false:=by subst h;simp [go_sem]
 have a4:W0.cell? ⟨w.heap.size+1+1,0,none⟩=some (.bool false):=by subst h;simp [go_sem]
 have aT:W0.frozen? ⟨w.heap.size+1+1,0,none⟩=false:=by subst h;simp [go_sem]
 have a2:W0.cell? ⟨w.heap.size+1+1,1,none⟩=some (.slice none 0 0):=by subst h;simp [go_sem]
 have ad:W0.frozen? ⟨w.heap.size+1+1,1,none⟩=false:=by subst h;simp [go_sem]
 have x0:Box W0 w.heap.size 134:=by subst h;exact ((bG _ _ _ (by simp)).alloc _).alloc _
 have x1:Box W0 (w.heap.size+1) 134:=by subst h;exact (bG _ _ _ (by simp)).alloc _
 have x2:Box W0 (w.heap.size+1+1) 134:=by subst h;exact bG _ _ _ (by simp)
 have p:ji (w.heap.size+1+1) (w.heap.size+1+1+1) 2 W0:=by subst h;exact lu (by simp)
 have o:w.heap.size+1+1+1<=W0.heap.size:=by subst h;simp
 clear h;have d:=d.belw b0;have g:=g.belw b0;have r0:Below W0.heap.size W0 W0:=ae _
 go_region_held3 (fun w'=>ba (w.heap.size+1+1) (w.heap.size+1+1+1) 2 W0 w') (first | exact ba.of (by omega) o p (by assumption) | exact ba.of (by omega) o p (af (by assumption) _))
  (first
   | (go_at_call 120;(with_reducible refine (eO _ b A n c l ?_ ?_).mono ?_);(exact d);(omega);rintro e w1 ⟨W,R,c1,rfl,f,I⟩;replace I:=aj (af (ae _) 1) I;have r1:=aj r0 I;replace d:=d.belw I;replace g:=g.belw I)
   | (go_at_call 120;(with_reducible refine (eO _ u A' n' c' l' ?_ ?_).mono ?_);(exact g);(omega);rintro e w2 ⟨A2,O,c2,rfl,j,K⟩;have r2:=aj r1 K;replace d:=d.belw K;replace g:=g.belw K;replace f:=f.belw K))
 obtain ⟨⟨sc,y⟩,t,sz⟩:=ba.of (by omega) o p r2;clear sc y t sz;go_wp2_with fail
 go_region_held3 (fun w'=>ba (w.heap.size+1+1) (w.heap.size+1+1+1) 2 W0 w') (first | exact ba.of (by omega) o p (by assumption) | exact ba.of (by omega) o p (af (by assumption) _))
  (first
   | (go_at_call 121;(with_reducible refine (jF _ b A n c l ?_ ?_).mono ?_);(exact d);(omega);rintro e w3 ⟨rfl,B⟩;replace B:=aj (af (ae _) 1) B;have r3:=aj r2 B;replace d:=d.belw B;replace g:=g.belw B;replace f:=f.belw B;replace j:=j.belw B)
   | (go_at_call 121;(with_reducible refine (jF _ u A' n' c' l' ?_ ?_).mono ?_);(exact g);(omega);rintro e w4 ⟨rfl,H⟩;have r4:=aj r3 H;replace d:=d.belw H;replace g:=g.belw H;replace f:=f.belw H;replace j:=j.belw H))
 obtain ⟨⟨sc,y⟩,t,sz⟩:=ba.of (by omega) o p r4;have E:aZ (WD.m ⟨b,l⟩):=WD.canon_m d.1;have C:aZ (WD.m ⟨u,l'⟩):=WD.canon_m g.1;have U:R<=1099511627000:=f.m_len (by rw [<- HL.out];exact hn);have Z:O<=1099511627000:=j.m_len (by rw [<- ac.out];exact ab);by_cases Q:WD.s ⟨b,l⟩=WD.s ⟨u,l'⟩
 ·have F:(WD.s ⟨b,l⟩==WD.s ⟨u,l'⟩)=true:=by simp [Q]
  have N:=Qh (xH Q);clear Q;rw [F];clear F
  go_wp2_with (first
   | (go_at_call 121;(with_reducible refine (jF _ b A n c l ?_ ?_).mono ?_);(exact d);(omega);rintro e w5 ⟨rfl,q⟩;have P:=aj r4 q;replace d:=d.belw q;replace g:=g.belw q;replace f:=f.belw q;replace j:=j.belw q;(try clear sc y t sz);obtain ⟨⟨sc,y⟩,t,sz⟩:=ba.of (by omega) o p P)
   | (go_at_call 141;(with_reducible refine (sQ _ W R c1 (WD.m ⟨b,l⟩) ?_ ?_ A2 O c2 (WD.m ⟨u,l'⟩) ?_ ?_).mono ?_);(exact f);(omega);(exact j);(omega);rintro e w6 ⟨X,V,c3,rfl,D,k⟩;have L:=aj P k;replace d:=d.belw k;replace g:=g.belw k;replace f:=f.belw k;replace j:=j.belw k;(try clear sc y t sz);obtain ⟨⟨sc,y⟩,t,sz⟩:=ba.of (by omega) o p L)
   | (go_at_call 140;(with_reducible refine (iA _ (WD.s ⟨b,l⟩) X V c3 (ap (val (WD.m ⟨b,l⟩)+val (WD.m ⟨u,l'⟩))) ?_ ?_).mono ?_);(exact D);(rw [D.2.1];exact qI f j U Z (by decide));rintro e w7 ⟨Y,n4,c4,rfl,M,i⟩;have J:=aj L i;replace d:=d.belw i;replace g:=g.belw i;replace f:=f.belw i;replace j:=j.belw i;replace D:=D.belw i;(try clear sc y t sz);obtain ⟨⟨sc,y⟩,t,sz⟩:=ba.of (by omega) o p J))
  rw [ah,<- N.out] at M;refine bodyPost_ret (v:=.agg #[.bool _,.slice Y n4 c4]) (by simp [results,Tryz.results99,go_sem,t];rfl) rfl ?_;have x:=x2.below J;refine gR ?_ ?_ ?_
  ·rw [N.out,ah]
  ·exact M.keep (kp2 x (by decide) _ _ _ _)
  exact ((b0.trans (J.mono b0.size)).setCell (by dsimp only;omega) _).setCell (by dsimp only;omega) _
 have F:(WD.s ⟨b,l⟩==WD.s ⟨u,l'⟩)=false:=by simp [Q]
 rw [F];clear F;by_cases T:val (WD.m ⟨u,l'⟩)<=val (WD.m ⟨b,l⟩)
 ·have hd:decide ((0:Int)<=bH (val (WD.m ⟨b,l⟩)) (val (WD.m ⟨u,l'⟩)))=true:=by simp [lK,T]
  have N:=Qh (xI (a:=⟨b,l⟩) (b:=⟨u,l'⟩) Q T);have HV:=Qh T;clear Q T;have G:O<=R:=pk j f C E (HV.out)
  go_wp2_with (first
   | (go_at_call 119;(with_reducible refine (eF _ W R c1 (WD.m ⟨b,l⟩) ?_ ?_ A2 O c2 (WD.m ⟨u,l'⟩) ?_ ?_ E C).mono ?_);(exact f);(omega);(exact j);(omega);rintro e w5 ⟨rfl,q⟩;have P:=aj r4 q;replace d:=d.belw q;replace g:=g.belw q;replace f:=f.belw q;replace j:=j.belw q;(try clear sc y t sz);obtain ⟨⟨sc,y⟩,t,sz⟩:=ba.of (by omega) o p P)
   | (go_at_call 121;(with_reducible refine (jF _ b A n c l ?_ ?_).mono ?_);(exact d);(omega);rintro e w6 ⟨rfl,k⟩;have L:=aj P k;replace d:=d.belw k;replace g:=g.belw k;replace f:=f.belw k;replace j:=j.belw k;(try clear sc y t sz);obtain ⟨⟨sc,y⟩,t,sz⟩:=ba.of (by omega) o p L)
   | (go_at_call 142;(with_reducible refine (sR _ W R c1 (WD.m ⟨b,l⟩) ?_ ?_ A2 O c2 (WD.m ⟨u,l'⟩) ?_ ?_ ?_).mono ?_);(exact f);(omega);(exact j);(exact G);(exact HV.out);rintro e w7 ⟨X,V,c3,rfl,D,i⟩;have J:=aj L i;replace d:=d.belw i;replace g:=g.belw i;replace f:=f.belw i;replace j:=j.belw i;(try clear sc y t sz);obtain ⟨⟨sc,y⟩,t,sz⟩:=ba.of (by omega) o p J)
   | (go_at_call 140;(with_reducible refine (iA _ (WD.s ⟨b,l⟩) X V c3 (ap (val (WD.m ⟨b,l⟩)-val (WD.m ⟨u,l'⟩))) ?_ ?_).mono ?_);(exact D);(rw [D.2.1];exact pl (Nat.lt_of_le_of_lt (Nat.sub_le _ _) (f.vlt U)) (by decide));rintro e w8 ⟨Y,n4,c4,rfl,M,r⟩;have S:=aj J r;replace d:=d.belw r;replace g:=g.belw r;replace f:=f.belw r;replace j:=j.belw r;replace D:=D.belw r;(try clear sc y t sz);obtain ⟨⟨sc,y⟩,t,sz⟩:=ba.of (by omega) o p S))
  rw [ah,<- N.out] at M;refine bodyPost_ret (v:=.agg #[.bool _,.slice Y n4 c4]) (by simp [results,Tryz.results99,go_sem,t];rfl) rfl ?_;have x:=x2.below S;refine gR ?_ ?_ ?_
  ·rw [N.out,ah]
  ·exact M.keep (kp2 x (by decide) _ _ _ _)
  exact ((b0.trans (S.mono b0.size)).setCell (by dsimp only;omega) _).setCell (by dsimp only;omega) _
 have hd:decide ((0:Int)<=bH (val (WD.m ⟨b,l⟩)) (val (WD.m ⟨u,l'⟩)))=false:=by simp [lK];omega
 have N:=Qh (xJ (a:=⟨b,l⟩) (b:=⟨u,l'⟩) Q (by omega));have HV:=Qh T;clear Q T;have G:R<=O:=pk f j E C (Nat.le_of_not_le HV.out)
 go_wp2_with (first
  | (go_at_call 119;(with_reducible refine (eF _ W R c1 (WD.m ⟨b,l⟩) ?_ ?_ A2 O c2 (WD.m ⟨u,l'⟩) ?_ ?_ E C).mono ?_);(exact f);(omega);(exact j);(omega);rintro e w5 ⟨rfl,q⟩;have P:=aj r4 q;replace d:=d.belw q;replace g:=g.belw q;replace f:=f.belw q;replace j:=j.belw q;(try clear sc y t sz);obtain ⟨⟨sc,y⟩,t,sz⟩:=ba.of (by omega) o p P)
  | (go_at_call 121;(with_reducible refine (jF _ u A' n' c' l' ?_ ?_).mono ?_);(exact g);(omega);rintro e w6 ⟨rfl,k⟩;have L:=aj P k;replace d:=d.belw k;replace g:=g.belw k;replace f:=f.belw k;replace j:=j.belw k;(try clear sc y t sz);obtain ⟨⟨sc,y⟩,t,sz⟩:=ba.of (by omega) o p L)
  | (go_at_call 142;(with_reducible refine (sR _ A2 O c2 (WD.m ⟨u,l'⟩) ?_ ?_ W R c1 (WD.m ⟨b,l⟩) ?_ ?_ ?_).mono ?_);(exact j);(omega);(exact f);(exact G);(exact Nat.le_of_not_le HV.out);rintro e w7 ⟨X,V,c3,rfl,D,i⟩;have J:=aj L i;replace d:=d.belw i;replace g:=g.belw i;replace f:=f.belw i;replace j:=j.belw i;(try clear sc y t sz);obtain ⟨⟨sc,y⟩,t,sz⟩:=ba.of (by omega) o p J)
  | (go_at_call 140;(with_reducible refine (iA _ (WD.s ⟨u,l'⟩) X V c3 (ap (val (WD.m ⟨u,l'⟩)-val (WD.m ⟨b,l⟩))) ?_ ?_).mono ?_);(exact D);(rw [D.2.1];exact pl (Nat.lt_of_le_of_lt (Nat.sub_le _ _) (j.vlt Z)) (by decide));rintro e w8 ⟨Y,n4,c4,rfl,M,r⟩;have S:=aj J r;replace d:=d.belw r;replace g:=g.belw r;replace f:=f.belw r;replace j:=j.belw r;replace D:=D.belw r;(try clear sc y t sz);obtain ⟨⟨sc,y⟩,t,sz⟩:=ba.of (by omega) o p S))
 rw [ah,<- N.out] at M;refine bodyPost_ret (v:=.agg #[.bool _,.slice Y n4 c4]) (by simp [results,Tryz.results99,go_sem,t];rfl) rfl ?_;have x:=x2.below S;refine gR ?_ ?_ ?_
 ·rw [N.out,ah]
 ·exact M.keep (kp2 x (by decide) _ _ _ _)
 exact ((b0.trans (S.mono b0.size)).setCell (by dsimp only;omega) _).setCell (by dsimp only;omega) _

theorem mj {x y o a:Nat}(j:x<4294967296) (h:y<4294967296) (g:o<4294967296) (i:a<4294967296) {p q s:Int}(b:IntKind.u64.wrap ((x:Int)*(y:Int))=p) (d:IntKind.u64.wrap (p+(o:Int))=q) (f:IntKind.u64.wrap ((a:Int)+q)=s) :
 s=((a+x*y+o:Nat):Int)/\(a+x*y+o)/4294967296<4294967296:=by
 rw [IntKind.wrap_u64] at b d f;have c:x*y<=4294967295*4294967295:=Nat.mul_le_mul (by omega) (by omega);have e:(x:Int)*(y:Int)=((x*y:Nat):Int):=by simp
 rw [e] at b;generalize x*y=z at *;omega
def xQ (l l' L:List Nat) (N n' i:Nat):Prop:=Wds L/\(∀ j,i+n'<=j->wd L j=0)/\Sm (wd L) N=Sm (wd l) i*val l'
def xR (l l' L:List Nat) (N n' i x k cr:Nat):Prop:=Wds L/\(∀ j,i+n'<=j->wd L j=0)/\Sm (wd L) N+cr*4294967296^(i+k)=Sm (wd l) i*val l'+x*Sm (wd l') k*4294967296^i
theorem tY (w:World) (A n c l) (wa:Wd w A n c l) (hn:n<=1099511627776) (A' n' c' l') (Y:Wd w A' n' c' l') (a4:n'<=1099511627776) :
 Calls Tryz.prog 143 #[.slice A n c,.slice A' n' c'] w (fz w (ap (val l*val l'))):=by
 have HL:=Qh wa.2.1;have aS:=Qh Y.2.1;go_in;go_wp2_with (at_make;refine aR _ rfl _ _ rfl _ _ _ _ (n+n') rfl rfl (by omega) (by omega) (by omega) ?_);go_loopw [19] (fun iv wr=>∃ (i:Nat) (L:List Nat),i<=n/\iv=.int .i64 (i:Nat)/\L.length=n+n'/\xQ l l' L (n+n') n' i/\Blk wr w.heap.size 173 (cellsOf L)/\Below w.heap.size w wr) (fun iv _=>n-(intOf iv).toNat)
 case atStart =>
  refine ⟨0,List.replicate (n+n') 0,Nat.zero_le _,rfl,by simp,⟨by intro x F;rw [List.eq_of_mem_replicate F];omega,fun j _=>?_,?_⟩,Blk.new _ _ _,(Below.refl _ _).alloc Qr _⟩
  ·unfold wd;by_cases G:j<n+n' <;> simp [List.getD,G]
  rw [Sm]
  have:∀ m,Sm (wd (List.replicate (n+n') 0)) m=0:=by
   intro m
   induction m with
   | zero=>rfl
   | succ m ih =>
    rw [Sm,ih];unfold wd;by_cases G:m<n+n' <;> simp [List.getD,G]
  rw [this];simp
 case round =>
  obtain ⟨i,L,hi,rfl,S,hI,hB,h⟩:=hrel;have al:=Qh ((Kp.refl w).below h);have T:=Qh hI;have HB:=Qh hB;have E:=Qh S;clear hI hB S;by_cases hkM:i<n
  ·obtain ⟨g,o,rfl,a1,U⟩:=(wa.keep al.out).at2 (by omega)
   have X:=U i hkM;obtain ⟨x,F⟩:∃ x,wd l i=x:=⟨_,rfl⟩;have aC:x<4294967296:=by rw [<- F];exact wa.lt i
   rw [F] at X;have HX:=Qh F;clear F U;go_wp2_with fail;obtain ⟨wo,K⟩:∃ wo:World,wo=wr:=⟨_,rfl⟩;have a3:=Qh K;clear K;go_loopw [8,26] (fun cv kv w2=>∃ (k t:Nat) (u:List Nat),k<=n'/\kv=.int .i64 (k:Nat)/\cv=.int .u64 (t:Nat)/\t<4294967296/\u.length=n+n'/\xR l l' u (n+n') n' i x k t/\Blk w2 w.heap.size 173 (cellsOf u)/\Below w.heap.size w w2) (fun _ kv _=>n'-(intOf kv).toNat)
   case atStart=>exact ⟨0,0,L,Nat.zero_le _,rfl,rfl,by omega,E.out,⟨T.out.1,T.out.2.1,by rw [T.out.2.2];simp [Sm]⟩,HB.out,h⟩
   case round =>
    obtain ⟨k,t,u,hk,rfl,rfl,R,B,J,O,f⟩:=hrel;have H:=Qh ((Kp.refl w).below f);have b:=Qh J;have r:=Qh O;have a:=Qh B;clear J O B;by_cases v:k<n'
    ·obtain ⟨g2,o2,rfl,a0,P⟩:=(Y.keep H.out).at2 (by omega)
     have an:=P k v;obtain ⟨y,z,V,C⟩:∃ y z,wd l' k=y/\wd u (i+k)=z:=⟨_,_,rfl,rfl⟩;have W:y<4294967296:=by rw [<- V];exact Y.lt k
     have ao:z<4294967296:=by rw [<- C];exact bN b.out.1 _
     rw [V] at an;have D:=r.out.cell (i+k);rw [aB (by rw [a.out];omega),C] at D;have ad:=r.out.frozen (i+k);have HY:=Qh V;have HZ:=Qh C;clear V C P;obtain ⟨p,hp⟩:∃ d,IntKind.u64.wrap ((x:Int)*(y:Int))=d:=⟨_,rfl⟩;obtain ⟨q,hq⟩:∃ d,IntKind.u64.wrap (p+(z:Int))=d:=⟨_,rfl⟩;obtain ⟨s,hs⟩:∃ d,IntKind.u64.wrap ((t:Int)+q)=d:=⟨_,rfl⟩;have HD:=Qh (mj aC W ao R hp hq hs);go_wp2;obtain ⟨es,ac⟩:=HD.out;clear hp hq hs;go_roundw
     case rel =>
      refine ⟨k+1,(t+x*y+z)/4294967296,u.set (i+k) ((t+x*y+z)%4294967296),by omega,by go_num,by rw [es];go_num,ac,by rw [List.length_set];exact a.out,⟨wds_set b.out.1 _ (Nat.mod_lt _ (by omega)),?_,?_⟩,?_,f.setCell Qr _⟩
      ·intro j G;rw [bS,if_neg (by omega)];exact b.out.2.1 j G
      ·have Q:=dx u (i+k) ((t+x*y+z)%4294967296) (n+n') (by rw [a.out];omega) (by omega)
       rw [HZ.out] at Q;have ht:=mi (o:=z) (x:=x) (y:=y) (Sb:=Sm (wd l') k) (Pi:=4294967296^i) (Pk:=4294967296^k) b.out.2.2 (by rw [Nat.pow_add]) Q;rw [<- Nat.add_assoc,Nat.pow_succ,Sm,HY.out];exact ht
      exact r.out.setW (i+k) _ _ (by rw [es];omega)
     case measure=>simp [intOf];omega
    have M:k=n':=by omega
    have ab:=Qh M;have D:=r.out.cell (i+n');have C:wd u (i+n')=0:=b.out.2.1 _ (by omega);rw [aB (by rw [a.out];omega),C] at D;have ad:=r.out.frozen (i+n');have a2:n'<=k:=by omega
    clear M v C;go_wp2;go_roundw
    case rel =>
     refine ⟨i+1,u.set (i+n') t,by omega,by go_num,by rw [List.length_set];exact a.out,⟨wds_set b.out.1 _ R,?_,?_⟩,?_,f.setCell Qr _⟩
     ·intro j G;rw [bS,if_neg (by omega)];exact b.out.2.1 j (by omega)
     ·have Q:=dx u (i+n') t (n+n') (by rw [a.out];omega) (by omega)
      rw [b.out.2.1 _ (by omega),Nat.zero_mul,Nat.add_zero] at Q;have h2:=b.out.2.2;rw [ab.out,bm l' (by rw [<- aS.out];exact Qr)] at h2;rw [Q,h2,Sm,HX.out,Nat.add_mul];congr 1;rw [Nat.mul_assoc,Nat.mul_comm (val l'),<- Nat.mul_assoc]
     exact r.out.setW (i+n') _ _ rfl
    case measure=>simp [intOf];omega
  have v:i=n:=by omega
  subst v
  have I:val L=val l*val l':=by
   have N:=T.out.2.2;rw [bm L (by rw [E.out];exact Qr),bm l (by rw [<- HL.out];omega)] at N;exact N
  have Z:=Qh I;clear I;go_wp2_with fail;refine (fA _ _ (i+n') (i+n') L ?_ ?_).mono ?_
  ·exact HB.out.wdN T.out.1 E.out
  ·omega
  rintro e w1 ⟨A1,n1,c1,rfl,N,aT⟩;go_wp2;go_ret;rw [Z.out] at N;exact ⟨_,_,_,rfl,N,h.trans (aT.mono h.size)⟩

theorem Ct (a:WD):-a.z=sgn (!a.s) (val a.m):=by
 rw [a.z_eq];cases a.s <;> simp [sgn]
theorem Cu (a b:WD):a.z*b.z=sgn (!(a.s==b.s)) (val a.m*val b.m):=by
 rw [a.z_eq,b.z_eq];cases a.s <;> cases b.s <;> simp [sgn,Int.neg_mul,Int.mul_neg]
theorem Ev (w:World) (b:Bool) (A n c l) (g:Wd w A n c l) (J:n<=1099511627000) :
 Calls Tryz.prog 115 #[.agg #[.bool b,.slice A n c]] w (gP w (wh (-WD.z ⟨b,l⟩))):=by
 have H:=Qh g.2.1;go_in;go_wp2_with fail;have b0:Below w.heap.size w ((w.alloc (.cells #[.bool b,.slice A n c] 134)).alloc (.cells #[.bool false,.slice none 0 0] 134)):=(((Below.refl _ _).alloc Qr _).alloc (by simp) _);generalize a:((w.alloc (.cells #[.bool b,.slice A n c] 134)).alloc (.cells #[.bool false,.slice none 0 0] 134))=W0 at b0 ⊢;have G:W0.cell? ⟨w.heap.size,0,none⟩=some (.bool b):=by subst a;simp [go_sem]
 have Q:W0.frozen? ⟨w.heap.size,0,none⟩=false:=by subst a;simp [go_sem]
 have L:W0.cell? ⟨w.heap.size,1,none⟩=some (.slice A n c):=by subst a;simp [go_sem]
 have E:W0.frozen? ⟨w.heap.size,1,none⟩=false:=by subst a;simp [go_sem]
 have F:W0.cell? ⟨w.heap.size+1,0,none⟩=some (.bool false):=by subst a;simp [go_sem]
 have u:W0.frozen? ⟨w.heap.size+1,0,none⟩=false:=by subst a;simp [go_sem]
 have B:W0.cell? ⟨w.heap.size+1,1,none⟩=some (.slice none 0 0):=by subst a;simp [go_sem]
 have I:W0.frozen? ⟨w.heap.size+1,1,none⟩=false:=by subst a;simp [go_sem]
 have x0:Box W0 w.heap.size 134:=by subst a;exact (bG _ _ _ (by simp)).alloc _
 have O:Box W0 (w.heap.size+1) 134:=by subst a;exact bG _ _ _ (by simp)
 have p:ji (w.heap.size+1) (w.heap.size+1+1) 2 W0:=by subst a;exact lu (by simp)
 have f:w.heap.size+1+1<=W0.heap.size:=by subst a;simp
 clear a;have g:=g.belw b0;have C:Below W0.heap.size W0 W0:=ae _;have d:w.heap.size+1<=w.heap.size+1+1:=by omega
 go_region_held3 (fun q=>Sees (w.heap.size+1) W0 q) (first | exact Sees.of (Nat.le_trans d f) (by assumption) | exact Sees.of (Nat.le_trans d f) (af (by assumption) _) | exact (Sees.set (Sees.of (Nat.le_trans d f) (by assumption)) (by simp)) | exact (Sees.set (Sees.set (Sees.of (Nat.le_trans d f) (by assumption)) (by simp)) (by simp)))
  (first
   | (go_at_call 121;(with_reducible refine (jF _ b A n c l ?_ ?_).mono ?_);(exact g);(omega);rintro e R ⟨rfl,h⟩;replace h:=aj (af (ae _) 1) h;have t:=aj C h;replace g:=g.belw h)
   | (go_at_call 120;(with_reducible refine (eO _ b A n c l ?_ ?_).mono ?_);(exact g);(omega);rintro e U ⟨y,N,c1,rfl,k,j⟩;have K:=aj t j;replace g:=g.belw j)
   | (go_at_call 140;(with_reducible refine (cZ _ (!WD.s ⟨b,l⟩) y N c1 (WD.m ⟨b,l⟩) (-WD.z ⟨b,l⟩) ?_ ?_ ?_).mono ?_);(exact k);(exact Nat.le_trans (k.m_len (by rw [<- H.out];exact J)) (by decide));(exact (Ct _).symm);rintro e S ⟨M,P,c2,rfl,r,i⟩;have o:=aj K i;replace g:=g.belw i;replace k:=k.belw i;obtain ⟨⟨sc,T⟩,D,sz⟩:=ba.of (by omega) f p o))
 clear d;go_wp2_with fail;refine bodyPost_ret (v:=.agg #[.bool _,.slice M P c2]) (by simp [results,Tryz.results115,go_sem,D];rfl) rfl ?_;have x:=O.below o;refine gR ?_ ?_ ?_
 ·rfl
 ·exact r.keep (kp2 x (by decide) _ _ _ _)
 exact ((b0.trans (o.mono b0.size)).setCell (by dsimp only;omega) _).setCell (by dsimp only;omega) _
theorem Ew (w:World) (b:Bool) (A n c l) (f:Wd w A n c l) (G:n<=500000000000) (i:Bool) (A' n' c' l') (d:Wd w A' n' c' l') (y:n'<=500000000000) :
 Calls Tryz.prog 100 #[.agg #[.bool b,.slice A n c],.agg #[.bool i,.slice A' n' c']] w (gP w (wh (WD.z ⟨b,l⟩*WD.z ⟨i,l'⟩))):=by
 have F:=Qh f.2.1;have B:=Qh d.2.1;go_in;go_wp2_with fail;have b0:Below w.heap.size w (((w.alloc (.cells #[.bool b,.slice A n c] 134)).alloc (.cells #[.bool i,.slice A' n' c'] 134)).alloc (.cells #[.bool false,.slice none 0 0] 134)):=((((Below.refl _ _).alloc Qr _).alloc (by simp) _).alloc (by simp;omega) _);generalize a:(((w.alloc (.cells #[.bool b,.slice A n c] 134)).alloc (.cells #[.bool i,.slice A' n' c'] 134)).alloc (.cells #[.bool false,.slice none 0 0] 134))=W0 at b0 ⊢;have ad:W0.cell? ⟨w.heap.size,0,none⟩=some (.bool b):=by subst a;simp [go_sem]
 have R:W0.frozen? ⟨w.heap.size,0,none⟩=false:=by subst a;simp [go_sem]
 have an:W0.cell? ⟨w.heap.size,1,none⟩=some (.slice A n c):=by subst a;simp [go_sem]
 have ac:W0.frozen? ⟨w.heap.size,1,none⟩=false:=by subst a;simp [go_sem]
 have N:W0.cell? ⟨w.heap.size+1,0,none⟩=some (.bool i):=by subst a;simp [go_sem]
 have U:W0.frozen? ⟨w.heap.size+1,0,none⟩=false:=by subst a;simp [go_sem]
 have X:W0.cell? ⟨w.heap.size+1,1,none⟩=some (.slice A' n' c'):=by subst a;simp [go_sem]
 have O:W0.frozen? ⟨w.heap.size+1,1,none⟩=false:=by subst a;simp [go_sem]
 have ao:W0.cell? ⟨w.heap.size+1+1,0,none⟩=some (.bool false):=by subst a;simp [go_sem]
 have ab:W0.frozen? ⟨w.heap.size+1+1,0,none⟩=false:=by subst a;simp [go_sem]
 have al:W0.cell? ⟨w.heap.size+1+1,1,none⟩=some (.slice none 0 0):=by subst a;simp [go_sem]
 have H:W0.frozen? ⟨w.heap.size+1+1,1,none⟩=false:=by subst a;simp [go_sem]
 have x0:Box W0 w.heap.size 134:=by subst a;exact ((bG _ _ _ (by simp)).alloc _).alloc _
 have x1:Box W0 (w.heap.size+1) 134:=by subst a;exact (bG _ _ _ (by simp)).alloc _
 have P:Box W0 (w.heap.size+1+1) 134:=by subst a;exact bG _ _ _ (by simp)
 have E:ji (w.heap.size+1+1) (w.heap.size+1+1+1) 2 W0:=by subst a;exact lu (by simp)
 have j:w.heap.size+1+1+1<=W0.heap.size:=by subst a;simp
 clear a;have f:=f.belw b0;have d:=d.belw b0;have M:Below W0.heap.size W0 W0:=ae _;have h:w.heap.size+1+1<=w.heap.size+1+1+1:=by omega
 go_region_held3 (fun S=>Sees (w.heap.size+1+1) W0 S) (first | exact Sees.of (Nat.le_trans h j) (by assumption) | exact Sees.of (Nat.le_trans h j) (af (by assumption) _) | exact (Sees.set (Sees.of (Nat.le_trans h j) (by assumption)) (by simp)) | exact (Sees.set (Sees.set (Sees.of (Nat.le_trans h j) (by assumption)) (by simp)) (by simp)))
  (first
   | (go_at_call 121;(with_reducible refine (jF _ b A n c l ?_ ?_).mono ?_);(exact f);(omega);rintro e w1 ⟨rfl,o⟩;replace o:=aj (af (ae _) 1) o;have T:=aj M o;replace f:=f.belw o;replace d:=d.belw o)
   | (go_at_call 121;(with_reducible refine (jF _ i A' n' c' l' ?_ ?_).mono ?_);(exact d);(omega);rintro e w2 ⟨rfl,t⟩;have r2:=aj T t;replace f:=f.belw t;replace d:=d.belw t)
   | (go_at_call 120;(with_reducible refine (eO _ b A n c l ?_ ?_).mono ?_);(exact f);(omega);rintro e w3 ⟨K,n1,c1,rfl,p,u⟩;have I:=aj r2 u;replace f:=f.belw u;replace d:=d.belw u)
   | (go_at_call 120;(with_reducible refine (eO _ i A' n' c' l' ?_ ?_).mono ?_);(exact d);(omega);rintro e w4 ⟨A2,W,c2,rfl,r,q⟩;have V:=aj I q;replace f:=f.belw q;replace d:=d.belw q;replace p:=p.belw q)
   | (go_at_call 143;(with_reducible refine (tY _ K n1 c1 (WD.m ⟨b,l⟩) ?_ ?_ A2 W c2 (WD.m ⟨i,l'⟩) ?_ ?_).mono ?_);(exact p);(exact Nat.le_trans (p.m_len (by rw [<- F.out];exact G)) (by decide));(exact r);(exact Nat.le_trans (r.m_len (by rw [<- B.out];exact y)) (by decide));rintro e w5 ⟨Q,J,c3,rfl,C,k⟩;have Z:=aj V k;replace f:=f.belw k;replace d:=d.belw k;replace p:=p.belw k;replace r:=r.belw k)
   | (go_at_call 140;(with_reducible refine (cZ _ (!(WD.s ⟨b,l⟩==WD.s ⟨i,l'⟩)) Q J c3 (ap (val (WD.m ⟨b,l⟩)*val (WD.m ⟨i,l'⟩))) (WD.z ⟨b,l⟩*WD.z ⟨i,l'⟩) ?_ ?_ ?_).mono ?_);(exact C);(rw [C.2.1];exact oi p r (Nat.le_trans (Nat.add_le_add (p.m_len (by rw [<- F.out];exact G)) (r.m_len (by rw [<- B.out];exact y))) (by decide)));(rw [ah];exact (Cu _ _).symm);rintro e w6 ⟨A4,n4,c4,rfl,L,g⟩;have D:=aj Z g;replace f:=f.belw g;replace d:=d.belw g;replace p:=p.belw g;replace r:=r.belw g;replace C:=C.belw g;obtain ⟨⟨sc,sf⟩,Y,sz⟩:=ba.of (by omega) j E D))
 clear h;go_wp2_with fail;refine bodyPost_ret (v:=.agg #[.bool _,.slice A4 n4 c4]) (by simp [results,Tryz.results100,go_sem,Y];rfl) rfl ?_;have x:=P.below D;refine gR ?_ ?_ ?_
 ·rfl
 ·exact L.keep (kp2 x (by decide) _ _ _ _)
 exact ((b0.trans (D.mono b0.size)).setCell (by dsimp only;omega) _).setCell (by dsimp only;omega) _

theorem jG (b:Bool) (n:Nat):(sgn b n).sign=if n=0 then 0 else if b then -1 else 1:=by
 unfold sgn;by_cases h0:n=0
 ·subst h0;cases b <;> rfl
 rw [if_neg h0];cases b
 ·exact Int.sign_eq_one_of_pos (by simp;omega)
 exact Int.sign_eq_neg_one_of_neg (by simp;omega)
theorem AO {a:WD}(h:a.m=[]):a.z.sign=0:=by rw [a.z_eq,jG,h];rfl
theorem AP {a:WD}(hw:Wds a.mag) (h:a.m≠[]):a.z.sign=if a.neg then -1 else 1:=by
 have c:val a.m≠0:=fun e=>h ((cW (WD.canon_m hw)).1 e)
 rw [a.z_eq,jG,if_neg c];have b:a.ok=true:=by cases hk:a.ok <;> simp_all [WD.m]
 simp [WD.s,b]
def da (x y:Int):Int:=if x<y then -1 else if x=y then 0 else 1
theorem pm {x y:Int}(h:x.sign<y.sign):da x y=-1:=by
 unfold da;rw [if_pos];rcases Int.lt_trichotomy x 0 with b | b | b <;> rcases Int.lt_trichotomy y 0 with a | a | a <;> simp_all [Int.sign_eq_neg_one_of_neg,Int.sign_eq_one_of_pos] <;> omega
theorem po {x y:Int}(h:y.sign<x.sign):da x y=1:=by
 have c:y<x:=by
  rcases Int.lt_trichotomy x 0 with b | b | b <;> rcases Int.lt_trichotomy y 0 with a | a | a <;> simp_all [Int.sign_eq_neg_one_of_neg,Int.sign_eq_one_of_pos] <;> omega
 unfold da;rw [if_neg (by omega),if_neg (by omega)]
theorem vj {a b:WD}(i:Wds a.mag) (hb:Wds b.mag) (h:a.z.sign=b.z.sign):da a.z b.z=if a.s then -bH (val a.m) (val b.m) else bH (val a.m) (val b.m):=by
 have d:∀ {x:WD},Wds x.mag->val x.m=0->x.s=false:=by
  intro x f e;have c:=(cW (WD.canon_m f)).1 e;unfold WD.m at c;cases hk:x.ok
  ·simp [WD.s,hk]
  rw [hk,if_pos rfl] at c;have:=((WD.ok_iff f).1 hk).2 c;simp [WD.s,this]
 rw [a.z_eq,b.z_eq] at h ⊢;rw [jG,jG] at h;have j:=@d a i;have g:=@d b hb;by_cases h1:val a.m=0 <;> by_cases h2:val b.m=0 <;> cases hsa:a.s <;> cases hsb:b.s <;> simp_all [sgn,da,bH] <;> (repeat' split) <;> omega
theorem AQ (a b:Nat):-1<=bH a b/\bH a b<=1:=by
 unfold bH;split
 ·omega
 split <;> omega
theorem xS (w:World) (b:Bool) (A n c l) (f:Wd w A n c l) (J:n<=1099511627000) :
 Calls Tryz.prog 118 #[.agg #[.bool b,.slice A n c]] w (ax w (.int .i64 (WD.z ⟨b,l⟩).sign)):=by
 have I:=Qh f.2.1;have j:=f.1;by_cases q:(WD.m ⟨b,l⟩)=[]
 ·have o:=Qh q
  clear q;go_in;go_wp2_with fail;have b0:Below w.heap.size w (w.alloc (.cells #[.bool b,.slice A n c] 134)):=((Below.refl _ _).alloc Qr _);generalize d:(w.alloc (.cells #[.bool b,.slice A n c] 134))=W0 at b0 ⊢;have x:W0.cell? ⟨w.heap.size,0,none⟩=some (.bool b):=by subst d;simp [go_sem]
  have B:W0.frozen? ⟨w.heap.size,0,none⟩=false:=by subst d;simp [go_sem]
  have y:W0.cell? ⟨w.heap.size,1,none⟩=some (.slice A n c):=by subst d;simp [go_sem]
  have v:W0.frozen? ⟨w.heap.size,1,none⟩=false:=by subst d;simp [go_sem]
  have x0:Box W0 w.heap.size 134:=by subst d;exact bG _ _ _ (by simp)
  have i:ji (w.heap.size+1) (w.heap.size+1) 0 W0:=fun b p D=>by omega
  have h:w.heap.size+1<=W0.heap.size:=by subst d;simp
  clear d;have f:=f.belw b0;have s:Below W0.heap.size W0 W0:=ae _
  go_wp2_with (first
   | (go_at_call 120;(with_reducible refine (eO _ b A n c l ?_ ?_).mono ?_);(exact f);(omega);rintro e C ⟨E,r,c1,rfl,p,g⟩;have F:((r:Int)==0)=true:=(by have:=p.2.1;rw [o.out] at this;simp at this;simp [this]);have k:=aj s g;replace f:=f.belw g;(try clear sc u t sz);obtain ⟨⟨sc,u⟩,t,sz⟩:=ba.of (by omega) h i k))
  go_ret;refine cM ?_ (b0.trans (k.mono b0.size));rw [AO o.out]
 have o:=Qh q;clear q;go_in;go_wp2_with fail;have b0:Below w.heap.size w (w.alloc (.cells #[.bool b,.slice A n c] 134)):=((Below.refl _ _).alloc Qr _);generalize d:(w.alloc (.cells #[.bool b,.slice A n c] 134))=W0 at b0 ⊢;have x:W0.cell? ⟨w.heap.size,0,none⟩=some (.bool b):=by subst d;simp [go_sem]
 have B:W0.frozen? ⟨w.heap.size,0,none⟩=false:=by subst d;simp [go_sem]
 have y:W0.cell? ⟨w.heap.size,1,none⟩=some (.slice A n c):=by subst d;simp [go_sem]
 have v:W0.frozen? ⟨w.heap.size,1,none⟩=false:=by subst d;simp [go_sem]
 have x0:Box W0 w.heap.size 134:=by subst d;exact bG _ _ _ (by simp)
 have i:ji (w.heap.size+1) (w.heap.size+1) 0 W0:=fun b p D=>by omega
 have h:w.heap.size+1<=W0.heap.size:=by subst d;simp
 clear d;have f:=f.belw b0;have s:Below W0.heap.size W0 W0:=ae _
 go_wp2_with (first
  | (go_at_call 120;(with_reducible refine (eO _ b A n c l ?_ ?_).mono ?_);(exact f);(omega);rintro e C ⟨E,r,c1,rfl,p,g⟩;have F:((r:Int)==0)=false:=(by have:=p.2.1;have G:=o.out;have H:r≠0:=(fun e=>G (List.eq_nil_of_length_eq_zero (by omega)));simp;omega);have k:=aj s g;replace f:=f.belw g;(try clear sc u t sz);obtain ⟨⟨sc,u⟩,t,sz⟩:=ba.of (by omega) h i k))
 all_goals go_ret
 all_goals refine cM ?_ (b0.trans (k.mono b0.size))
 all_goals rw [AP (a:=⟨b,l⟩) j o.out];simp_all
theorem xT (w:World) (b:Bool) (A:Option Addr) (n c:Nat) (l:List Nat) (s:Int) (a:Wd w A n c l) (f:n<=1099511627000) (d:(WD.z ⟨b,l⟩).sign=s) :
 Calls Tryz.prog 118 #[.agg #[.bool b,.slice A n c]] w (ax w (.int .i64 s)):=by subst d;exact xS w b A n c l a f
theorem fM (w:World) (b:Bool) (A:Option Addr) (n c:Nat) (l:List Nat) (s:Bool) (a:Wd w A n c l) (f:n<=1099511627776) (d:WD.s ⟨b,l⟩=s) :
 Calls Tryz.prog 121 #[.agg #[.bool b,.slice A n c]] w (ax w (.bool s)):=by subst d;exact jF w b A n c l a f
theorem vk (w:World) (A n c l) (h:Wd w A n c l) (i:n<=1099511627776) (A' n' c' l') (f:Wd w A' n' c' l') (a:n'<=1099511627776) (g:aZ l) (b:aZ l') (k:Int) (d:bH (val l) (val l')=k) :
 Calls Tryz.prog 119 #[.slice A n c,.slice A' n' c'] w (ax w (.int .i64 k)):=by subst d;exact eF w A n c l h i A' n' c' l' f a g b
theorem Ex (w:World) (b:Bool) (A n c l) (g:Wd w A n c l) (hn:n<=1099511627000) (o:Bool) (A' n' c' l') (h:Wd w A' n' c' l') (V:n'<=1099511627000) :
 Calls Tryz.prog 83 #[.agg #[.bool b,.slice A n c],.agg #[.bool o,.slice A' n' c']] w (ax w (.int .i64 (da (WD.z ⟨b,l⟩) (WD.z ⟨o,l'⟩)))):=by
 have HL:=Qh g.2.1;have X:=Qh h.2.1;have W:=g.1;have T:=h.1;have O:aZ (WD.m ⟨b,l⟩):=WD.canon_m g.1;have N:aZ (WD.m ⟨o,l'⟩):=WD.canon_m h.1;obtain ⟨sa,L⟩:∃ s,(WD.z ⟨b,l⟩).sign=s:=⟨_,rfl⟩;obtain ⟨sb,M⟩:∃ s,(WD.z ⟨o,l'⟩).sign=s:=⟨_,rfl⟩;have F:=Qh L;have B:=Qh M;clear L M;go_in;go_wp2_with fail;have b0:Below w.heap.size w ((w.alloc (.cells #[.bool b,.slice A n c] 134)).alloc (.cells #[.bool o,.slice A' n' c'] 134)):=(((Below.refl _ _).alloc Qr _).alloc (by simp) _);generalize d:((w.alloc (.cells #[.bool b,.slice A n c] 134)).alloc (.cells #[.bool o,.slice A' n' c'] 134))=W0 at b0 ⊢;have aS:W0.cell? ⟨w.heap.size,0,none⟩=some (.bool b):=by subst d;simp [go_sem]
 have ad:W0.frozen? ⟨w.heap.size,0,none⟩=false:=by subst d;simp [go_sem]
 have aT:W0.cell? ⟨w.heap.size,1,none⟩=some (.slice A n c):=by subst d;simp [go_sem]
 have aC:W0.frozen? ⟨w.heap.size,1,none⟩=false:=by subst d;simp [go_sem]
 have ab:W0.cell? ⟨w.heap.size+1,0,none⟩=some (.bool o):=by subst d;simp [go_sem]
 have an:W0.frozen? ⟨w.heap.size+1,0,none⟩=false:=by subst d;simp [go_sem]
 have ao:W0.cell? ⟨w.heap.size+1,1,none⟩=some (.slice A' n' c'):=by subst d;simp [go_sem]
 have ac:W0.frozen? ⟨w.heap.size+1,1,none⟩=false:=by subst d;simp [go_sem]
 have x0:Box W0 w.heap.size 134:=by subst d;exact (bG _ _ _ (by simp)).alloc _
 have x1:Box W0 (w.heap.size+1) 134:=by subst d;exact bG _ _ _ (by simp)
 have D:ji (w.heap.size+1+1) (w.heap.size+1+1) 0 W0:=fun b q v=>by omega
 have i:w.heap.size+1+1<=W0.heap.size:=by subst d;simp
 clear d;have g:=g.belw b0;have h:=h.belw b0;have r0:Below W0.heap.size W0 W0:=ae _;have j:w.heap.size+1+1<=w.heap.size+1+1:=by omega
 go_region_held3 (fun R=>Sees (w.heap.size+1+1) W0 R) (first | exact Sees.of (Nat.le_trans j i) (by assumption) | exact Sees.of (Nat.le_trans j i) (af (by assumption) _))
  (first
   | (go_at_call 118;(with_reducible refine (xT _ b A n c l sa ?_ ?_ ?_).mono ?_);(exact g);(omega);(exact F.out);rintro e w1 ⟨rfl,t⟩;replace t:=aj (af (ae _) 1) t;have r1:=aj r0 t;replace g:=g.belw t;replace h:=h.belw t)
   | (go_at_call 118;(with_reducible refine (xT _ o A' n' c' l' sb ?_ ?_ ?_).mono ?_);(exact h);(omega);(exact B.out);rintro e w2 ⟨rfl,G⟩;have Q:=aj r1 G;replace g:=g.belw G;replace h:=h.belw G))
 obtain ⟨⟨sc,H⟩,I,sz⟩:=ba.of (by omega) i D Q;clear j;by_cases p:sa=sb
 ·have J:=Qh (vj (a:=⟨b,l⟩) (b:=⟨o,l'⟩) W T (by rw [F.out,B.out];exact p))
  subst p;obtain ⟨k,S⟩:∃ k,bH (val (WD.m ⟨b,l⟩)) (val (WD.m ⟨o,l'⟩))=k:=⟨_,rfl⟩;have al:-1<=k/\k<=1:=by rw [<- S];exact AQ _ _
  have Y:=Qh S;clear S;go_wp2_with fail;clear sc H I sz;have j:w.heap.size+1+1<=w.heap.size+1+1:=by omega
  go_region_held3 (fun R=>Sees (w.heap.size+1+1) W0 R) (first | exact Sees.of (Nat.le_trans j i) (by assumption) | exact Sees.of (Nat.le_trans j i) (af (by assumption) _))
   (first
    | (go_at_call 120;(with_reducible refine (eO _ b A n c l ?_ ?_).mono ?_);(exact g);(omega);rintro e w3 ⟨A1,n1,c1,rfl,q,u⟩;replace u:=aj (af (ae _) 1) u;have r3:=aj Q u;replace g:=g.belw u;replace h:=h.belw u)
    | (go_at_call 120;(with_reducible refine (eO _ o A' n' c' l' ?_ ?_).mono ?_);(exact h);(omega);rintro e w4 ⟨A2,n2,c2,rfl,v,E⟩;have r4:=aj r3 E;replace g:=g.belw E;replace h:=h.belw E;replace q:=q.belw E)
    | (go_at_call 119;(with_reducible refine (vk _ A1 n1 c1 (WD.m ⟨b,l⟩) ?_ ?_ A2 n2 c2 (WD.m ⟨o,l'⟩) ?_ ?_ O N k ?_).mono ?_);(exact q);(exact Nat.le_trans (q.m_len (by rw [<- HL.out];exact hn)) (by decide));(exact v);(exact Nat.le_trans (v.m_len (by rw [<- X.out];exact V)) (by decide));(exact Y.out);rintro e w5 ⟨rfl,r⟩;have U:=aj r4 r;replace g:=g.belw r;replace h:=h.belw r;replace q:=q.belw r;replace v:=v.belw r))
  obtain ⟨⟨sc,H⟩,I,sz⟩:=ba.of (by omega) i D U;clear j;obtain ⟨s,Z⟩:∃ s,WD.s ⟨b,l⟩=s:=⟨_,rfl⟩;have P:=Qh Z;clear Z;cases s
  ·go_wp2_with (first
    | (go_at_call 121;(with_reducible refine (fM _ b A n c l false ?_ ?_ ?_).mono ?_);(exact g);(omega);(exact P.out);rintro e w6 ⟨rfl,f⟩;have K:=aj U f;replace g:=g.belw f;replace h:=h.belw f;replace q:=q.belw f;replace v:=v.belw f;(try clear sc H I sz);obtain ⟨⟨sc,H⟩,I,sz⟩:=ba.of (by omega) i D K))
   go_ret;refine cM ?_ (b0.trans (K.mono b0.size));rw [J.out,P.out,Y.out];rfl
  have hw:IntKind.i64.wrap (-k)=-k:=IntWalk.i64_in _ ⟨by omega,by omega⟩
  go_wp2_with (first
   | (go_at_call 121;(with_reducible refine (fM _ b A n c l true ?_ ?_ ?_).mono ?_);(exact g);(omega);(exact P.out);rintro e w6 ⟨rfl,f⟩;have K:=aj U f;replace g:=g.belw f;replace h:=h.belw f;replace q:=q.belw f;replace v:=v.belw f;(try clear sc H I sz);obtain ⟨⟨sc,H⟩,I,sz⟩:=ba.of (by omega) i D K))
  go_ret;refine cM ?_ (b0.trans (K.mono b0.size));rw [J.out,P.out,Y.out];rfl
 by_cases C:sa<sb
 ·have J:=Qh (pm (x:=WD.z ⟨b,l⟩) (y:=WD.z ⟨o,l'⟩) (by rw [F.out,B.out];exact C))
  have e1:(sa==sb)=false:=by simp [p]
  have e2:decide (sa<sb)=true:=by simp [C]
  clear p C;go_wp2;go_ret;refine cM ?_ (b0.trans (Q.mono b0.size));rw [J.out]
 have J:=Qh (po (x:=WD.z ⟨b,l⟩) (y:=WD.z ⟨o,l'⟩) (by rw [F.out,B.out];omega));have e1:(sa==sb)=false:=by simp [p]
 have e2:decide (sa<sb)=false:=by simp;omega
 clear p C;go_wp2;go_ret;refine cM ?_ (b0.trans (Q.mono b0.size));rw [J.out]

theorem qK (r x:Nat) (a:x<4294967296):r*4294967296 ||| x=r*4294967296+x:=by
 have:=Nat.two_pow_add_eq_or_of_lt (i:=32) (b:=x) (by simpa using a) r;simp at this;rw [Nat.mul_comm];exact this.symm
theorem kN {r x:Nat}(b:r<4294967296) (a:x<4294967296):bits .or .u64 ((r:Int)*4294967296) (x:Int)=((r*4294967296+x:Nat):Int):=by
 have e:(r:Int)*4294967296=((r*4294967296:Nat):Int):=by simp
 rw [e,u64_or_nat _ _ (by omega) (by omega),qK r x a]
theorem ml (l:List Nat) {k:Nat}(h:k<l.length):val (l.drop k)=wd l k+4294967296*val (l.drop (k+1)):=by
 rw [List.drop_eq_getElem_cons h,val,ma h]
theorem nN (l:List Nat) (k x:Nat):(l.set k x).drop (k+1)=l.drop (k+1):=by
 rw [List.drop_set_of_lt (by omega)]
def CT (l L:List Nat) (b k r:Nat):Prop:=Wds L/\r<b/\val (l.drop k)=b*val (L.drop k)+r
theorem tZ (w:World) (A n c l) (E:Wd w A n c l) (hn:n<=1099511627776) (b:Nat) (f:0<b) (ac:b<4294967296) :
 Calls Tryz.prog 123 #[.slice A n c,.int .u32 (b:Nat)] w fun e M=>∃ D I c1,e=.returned (.tuple #[.slice D I c1,.int .u32 ((val l%b:Nat):Int)])/\Wd M D I c1 (ap (val l/b))/\Below w.heap.size w M:=by
 have Q:=Qh E.2.1;go_in;go_wp2_with (at_make;refine aR _ rfl _ _ rfl _ _ _ _ n rfl rfl (by omega) (by omega) (by omega) ?_);go_loopw [7,8] (fun Y J wr=>∃ (k r:Nat) (L:List Nat),k<=n/\J=.int .i64 ((k:Int)-1)/\Y=.int .u64 (r:Nat)/\r<b/\L.length=n/\CT l L b k r/\Blk wr w.heap.size 173 (cellsOf L)/\Below w.heap.size w wr) (fun _ J _=>(intOf J+1).toNat)
 case atStart=>exact ⟨n,0,List.replicate n 0,Qr,rfl,rfl,f,by simp,⟨by intro x i;rw [List.eq_of_mem_replicate i];omega,f,by rw [Q.out];simp [val]⟩,Blk.new _ _ _,(Below.refl _ _).alloc Qr _⟩
 case round =>
  obtain ⟨k,r,L,hk,rfl,rfl,Z,q,P,hB,a⟩:=hrel;have C:=Qh ((Kp.refl w).below a);have j:=Qh P;have y:=Qh hB;have d:=Qh q;clear P hB q;by_cases m:k=0
  ·subst m
   have z:=j.out.2.2;simp only [List.drop_zero] at z
   have O:val l/b=val L:=by
    rw [z,Nat.mul_add_div f,Nat.div_eq_of_lt j.out.2.1,Nat.add_zero]
   have S:val l%b=r:=by rw [z];rw [Nat.mul_add_mod];exact Nat.mod_eq_of_lt j.out.2.1
   have N:=Qh (And.intro O S);have U:r<4294967296:=by omega
   clear O S z;go_wp2_with fail;refine (fA _ _ n n L ?_ ?_).mono ?_
   ·exact y.out.wdN j.out.1 d.out
   ·omega
   rintro e w1 ⟨D,I,c1,rfl,T,H⟩;go_wp2;go_ret2;rw [N.out.1,N.out.2];exact ⟨_,_,_,rfl,T,a.trans (H.mono a.size)⟩
  obtain ⟨g,o,rfl,ad,u⟩:=(E.keep C.out).at2 (by omega);have B:=u (k-1) (by omega);obtain ⟨x,i⟩:∃ x,wd l (k-1)=x:=⟨_,rfl⟩;have F:x<4294967296:=by rw [<- i];exact E.lt _
  rw [i] at B;have HX:=Qh i;have K:=y.out.cell (k-1);rw [aB (by rw [d.out];omega)] at K;have ab:=y.out.frozen (k-1);have al:0<k:=by omega
  obtain ⟨s,G⟩:∃ s:Nat,s=r*4294967296+x:=⟨_,rfl⟩;have e1:bits .or .u64 ((r:Int)*4294967296) (x:Int)=(s:Int):=by rw [G];exact kN (by omega) F
  have R:=Qh G
  have p:s/b<4294967296:=by
   rw [Nat.div_lt_iff_lt_mul f,R.out];have:(r+1)*4294967296<=b*4294967296:=Nat.mul_le_mul_right _ Z;rw [Nat.add_mul] at this;rw [Nat.mul_comm 4294967296];omega
  obtain ⟨t,v⟩:∃ t:Nat,s/b=t:=⟨_,rfl⟩;rw [v] at p
  have X:IntKind.u64.wrap ((s:Int)/(b:Int))=(t:Int):=by
   have W:((s/b:Nat):Int)=(s:Int)/(b:Int):=by simp
   rw [<- W,v];exact IntWalk.u64_in _ ⟨by omega,by omega⟩
  have V:=Qh v;clear i u m G v;go_wp2;clear e1 X;have h:s%b<b:=Nat.mod_lt _ f;go_roundw
  case rel =>
   refine ⟨k-1,s%b,L.set (k-1) t,by omega,by go_num,by simp,h,by rw [List.length_set];exact d.out,⟨wds_set j.out.1 _ p,h,?_⟩,?_,a.setCell Qr _⟩
   ·rw [ml l (by rw [<- Q.out];omega),ml (L.set (k-1) t) (by rw [List.length_set,d.out];omega),nN,show k-1+1=k by omega,HX.out,bS,if_pos ⟨rfl,by rw [d.out];omega⟩,<- V.out,R.out]
    exact sO j.out.2.2
   exact y.out.setW (k-1) _ _ (by omega)
  case measure=>simp [intOf];omega

theorem AR {x q q2:Nat}(a:x<4294967296) (h:q+1*4294967296<=q2):x+q<q2:=by omega
theorem AU {a b x c:Nat}(h:a=c+b):a+x=x+b+c:=by omega
theorem vl {x y m:Nat}(j:x<4294967296) (n:y<4294967296) (o:m<32) {s:Int}(i:bits .or .u64 (x:Int) ((y:Int)*4294967296)=s) :
 ∃ v:Nat,IntKind.u32.wrap (s/2^m)=(v:Int)/\v<4294967296/\v*2^m+x%2^m=x+y%2^m*4294967296:=by
 have e:(y:Int)*4294967296=((y*4294967296:Nat):Int):=by simp
 rw [e,u64_or_nat _ _ (by omega) (by omega),Nat.or_comm,qK y x j] at i;have a:0<2^m:=Nat.pow_pos (by omega)
 have g:4294967296=2^m*2^(32-m):=by
  rw [<- Nat.pow_add,show m+(32-m)=32 by omega]
 have d:=Nat.div_add_mod y (2^m)
 have h:y*4294967296+x=(x+y%2^m*4294967296)+2^m*(y/2^m*4294967296):=by
  have b:y*4294967296=(2^m*(y/2^m)+y%2^m)*4294967296:=by rw [d]
  rw [Nat.add_mul,Nat.mul_assoc] at b;exact AU b
 have c:(x+y%2^m*4294967296)/2^m<4294967296:=by
  rw [Nat.div_lt_iff_lt_mul a];have b:y%2^m+1<=2^m:=Nat.mod_lt _ a;have f:(y%2^m+1)*4294967296<=2^m*4294967296:=Nat.mul_le_mul_right _ b;rw [Nat.add_mul] at f;rw [Nat.mul_comm 4294967296];exact AR j f
 refine ⟨(x+y%2^m*4294967296)/2^m,?_,c,?_⟩
 ·rw [<- i,h]
  have k:((((x+y%2^m*4294967296)+2^m*(y/2^m*4294967296):Nat):Int))/2^m=((((x+y%2^m*4294967296)+2^m*(y/2^m*4294967296))/2^m:Nat):Int):=by simp
  rw [k,Nat.add_mul_div_left _ _ a,IntKind.wrap_u32];have l:((((x+y%2^m*4294967296)/2^m+y/2^m*4294967296:Nat):Int))%4294967296=((((x+y%2^m*4294967296)/2^m+y/2^m*4294967296)%4294967296:Nat):Int):=by simp
  rw [l,Nat.add_mul_mod_self_right,Nat.mod_eq_of_lt c]
 have b:=Nat.div_add_mod (x+y%2^m*4294967296) (2^m)
 have f:(x+y%2^m*4294967296)%2^m=x%2^m:=by
  have:y%2^m*4294967296=2^m*(y%2^m*2^(32-m)):=by
   conv=>lhs;rw [g]
   rw [Nat.mul_left_comm]
  rw [this,Nat.add_mul_mod_self_left]
 rw [f,Nat.mul_comm] at b;exact b
theorem xU {d SM f P c v M x b PB a:Nat}(h:d*M+f=SM+c*P) (g:v*M+c=x+b) (k:b*P=a):(d+v*P)*M+f=SM+x*P+a:=by
 have j:(v*M+c)*P=(x+b)*P:=by rw [g]
 rw [Nat.add_mul,Nat.add_mul] at j;have i:v*P*M=v*M*P:=by rw [Nat.mul_assoc,Nat.mul_comm P,<- Nat.mul_assoc]
 have _:=PB;rw [Nat.add_mul,i];omega
def Ey (l L:List Nat) (m k:Nat):Prop:=Wds L/\Sm (wd L) k*2^m+val l%2^m=Sm (wd l) k+wd l k%2^m*4294967296^k
theorem CU (w:World) (A n c l) (i:Wd w A n c l) (hn:n<=1099511627776) (m:Nat) (hm:m<32) :
 Calls Tryz.prog 203 #[.slice A n c,.int .i64 (m:Nat)] w (fz w (ap (val l/2^m))):=by
 have Q:=Qh i.2.1;go_in;go_wp2_with (at_make;refine aR _ rfl _ _ rfl _ _ _ _ n rfl rfl (by omega) (by omega) (by omega) ?_);go_loopw [12] (fun H wr=>∃ (k:Nat) (L:List Nat),k<=n/\H=.int .i64 (k:Nat)/\L.length=n/\Ey l L m k/\Blk wr w.heap.size 173 (cellsOf L)/\Below w.heap.size w wr) (fun H _=>n-(intOf H).toNat)
 case atStart =>
  refine ⟨0,List.replicate n 0,Nat.zero_le _,rfl,by simp,⟨by intro x h;rw [List.eq_of_mem_replicate h];omega,?_⟩,Blk.new _ _ _,(Below.refl _ _).alloc Qr _⟩
  have d:val l=wd l 0+4294967296*val (l.drop 1):=by
   by_cases h0:0<l.length
   ·have:=ml l h0;simpa using this
   have:l=[]:=List.eq_nil_of_length_eq_zero (by omega);subst this;simp [val,wd]
  have E:4294967296=2^m*2^(32-m):=by
   rw [<- Nat.pow_add,show m+(32-m)=32 by omega]
  have O:val l%2^m=wd l 0%2^m:=by
   rw [d]
   conv=>lhs;rw [E]
   rw [Nat.mul_assoc,Nat.add_mul_mod_self_left]
  simp [Sm,O]
 case round =>
  obtain ⟨k,L,hk,rfl,q,S,hB,a⟩:=hrel;have p:=Qh ((Kp.refl w).below a);have z:=Qh S;have u:=Qh hB;have b:=Qh q;clear S hB q;by_cases hkn:k<n
  ·obtain ⟨g,o,rfl,W,_⟩:=i.at2 (by omega)
   obtain ⟨g2,o2,F,ab,r⟩:=(i.keep p.out).at2 (by omega);injection F with F;injection F with eg1 eg2;subst eg1;subst eg2;have C:=r k hkn;obtain ⟨x,y,h,M⟩:∃ x y,wd l k=x/\wd l (k+1)=y:=⟨_,_,rfl,rfl⟩;have K:x<4294967296:=by rw [<- h];exact i.lt _
   have B:y<4294967296:=by rw [<- M];exact i.lt _
   rw [h] at C;have I:=u.out.cell k;rw [aB (by rw [b.out];omega)] at I;have Z:=u.out.frozen k;have U:=Qh h;have P:=Qh M;have ad:(0:Int)<=(k:Int):=by omega
   have ac:(k:Int)<(n:Int):=by omega
   have V:IntKind.i64.wrap ((k:Int)+1)=((k+1:Nat):Int):=by rw [IntWalk.i64_in _ ⟨by omega,by omega⟩];simp
   have e1:IntKind.u64.wrap (x:Int)=(x:Int):=IntWalk.u64_in _ ⟨by omega,by omega⟩;have Y:IntKind.u64.wrap ((y:Int)*4294967296)=(y:Int)*4294967296:=IntWalk.u64_in _ ⟨by omega,by omega⟩;obtain ⟨s,T⟩:∃ s,bits .or .u64 (x:Int) ((y:Int)*4294967296)=s:=⟨_,rfl⟩;have HS:=Qh T;clear h M r;go_wp2_with fail
   go_region_held3 (fun R=>R.cell? ⟨g,o+k,none⟩=some (.int .u32 x)) (first | assumption | (simp [*];done) | (simp [*,go_sem];done))
    (first
     | (go_at_call 172;(refine (mh _ (some ⟨g,o,none⟩) n c l ?_ (k+1) y P.out (by omega)).mono ?_);exact (i.keep p.out).keep ((Kp.refl _).drew);rintro e R ⟨rfl,rfl⟩))
   clear T V e1 Y;go_wp2;obtain ⟨v,X,J,hv⟩:=vl K B hm HS.out;go_roundw
   case rel =>
    refine ⟨k+1,L.set k v,by omega,by go_num,by rw [List.length_set];exact b.out,⟨wds_set z.out.1 _ J,?_⟩,(u.out.setW k _ _ X).drew,(a.setCell Qr _).drew⟩;rw [cf _ _ _ (by rw [b.out];exact hkn),Sm,U.out,P.out];have t:=z.out.2;rw [U.out] at t;exact xU (PB:=0) t hv (by rw [Nat.pow_succ,Nat.mul_assoc,Nat.mul_comm 4294967296])
   case measure=>simp [intOf];omega
  have D:k=n:=by omega
  subst D
  have j:val L=val l/2^m:=by
   have d:=z.out.2;rw [bm L (by rw [b.out];exact Qr),bm l (by rw [<- Q.out];omega),eM (by rw [<- Q.out];omega)] at d;have f:0<2^m:=Nat.pow_pos (by omega);have O:=Nat.mod_lt (val l) f;simp at d;have t:val l=2^m*val L+val l%2^m:=by rw [Nat.mul_comm];exact d.symm
   rw [t,Nat.mul_add_div f,Nat.div_eq_of_lt (Nat.mod_lt _ f)];simp
  have G:=Qh j;clear j;go_wp2_with fail;refine (fA _ _ k k L ?_ ?_).mono ?_
  ·exact u.out.wdN z.out.1 b.out
  ·omega
  rintro e w1 ⟨A1,n1,c1,rfl,d,N⟩;go_wp2;go_ret;rw [G.out] at d;exact ⟨_,_,_,rfl,d,a.trans (N.mono a.size)⟩

theorem AV {x z m:Nat}(n:x<4294967296) (o:m<32) (k:z<2^m) :
 bits .or .u32 (z:Int) (IntKind.u64.wrap ((x:Int)*2^m)%4294967296)=((z+x*2^m%4294967296:Nat):Int) /\
 IntKind.u64.wrap ((x:Int)*2^m)/4294967296%4294967296=((x*2^m/4294967296:Nat):Int) /\
 z+x*2^m%4294967296<4294967296/\x*2^m/4294967296<2^m:=by
 have e:(x:Int)*2^m=((x*2^m:Nat):Int):=by simp
 have l:2^m<=2^31:=Nat.pow_le_pow_right (by omega) (by omega);have b:0<2^m:=Nat.pow_pos (by omega);have hb:x*2^m<=4294967295*2^31:=Nat.mul_le_mul (by omega) l;have g:x*2^m<4294967296*2^m:=Nat.mul_lt_mul_of_pos_right n b;have hw:IntKind.u64.wrap ((x*2^m:Nat):Int)=((x*2^m:Nat):Int):=IntWalk.u64_in _ ⟨by omega,by omega⟩
 have c:4294967296=2^m*2^(32-m):=by
  rw [<- Nat.pow_add,show m+(32-m)=32 by omega]
 have f:x*2^m%4294967296=2^m*(x%2^(32-m)):=by
  rw [c,Nat.mul_comm x,Nat.mul_mod_mul_left]
 have d:z ||| x*2^m%4294967296=z+x*2^m%4294967296:=by
  rw [f,Nat.or_comm,<- Nat.two_pow_add_eq_or_of_lt k];omega
 have a:z+x*2^m%4294967296<4294967296:=by
  have i:x%2^(32-m)<2^(32-m):=Nat.mod_lt _ (Nat.pow_pos (by omega));have h:2^m*(x%2^(32-m)+1)<=2^m*2^(32-m):=Nat.mul_le_mul_left _ i;rw [Nat.mul_add] at h;rw [f];generalize 2^m*(x%2^(32-m))=q at *;omega
 refine ⟨?_,?_,a,?_⟩
 ·rw [e,hw]
  have j:((x*2^m:Nat):Int)%4294967296=((x*2^m%4294967296:Nat):Int):=by omega
  rw [j,u32_or_nat _ _ (by omega) (by omega),d]
 ·rw [e,hw]
  generalize x*2^m=q at *;omega
 rw [Nat.div_lt_iff_lt_mul (by omega)];omega
theorem CV {a z SM P PB b r q:Nat}(d:a+z*P=SM) (c:r*P+q*PB=b):a+(z+r)*P+q*PB=SM+b:=by
 rw [Nat.add_mul];omega
def UpI (l L:List Nat) (m k:Nat):Prop:=Wds L/\(∀ j,k<j->wd L j=0)/\wd L k<2^m/\Sm (wd L) (k+1)=Sm (wd l) k*2^m
theorem FC (w:World) (A n c l) (y:Wd w A n c l) (hn:n<=1099511627776) (m:Nat) (W:m<32) :
 Calls Tryz.prog 200 #[.slice A n c,.int .i64 (m:Nat)] w fun e F=>∃ L,e=.returned (.slice (some ⟨w.heap.size,0,none⟩) (n+1) (n+1))/\Wds L/\L.length=n+1/\val L=val l*2^m/\Blk F w.heap.size 173 (cellsOf L)/\Below w.heap.size w F:=by
 have U:=Qh y.2.1;go_in;go_wp2_with (at_make;refine aR _ rfl _ _ rfl _ _ _ _ (n+1) rfl rfl (by omega) (by omega) (by omega) ?_);go_loopw [15] (fun C wr=>∃ (k:Nat) (L:List Nat),k<=n/\C=.int .i64 (k:Nat)/\L.length=n+1/\UpI l L m k/\Blk wr w.heap.size 173 (cellsOf L)/\Below w.heap.size w wr) (fun C _=>n-(intOf C).toNat)
 case atStart =>
  have d:∀ j,wd (List.replicate (n+1) 0) j=0:=fun j=>by unfold wd;by_cases M:j<n+1 <;> simp [List.getD,M]
  exact ⟨0,List.replicate (n+1) 0,Nat.zero_le _,rfl,by simp,⟨by intro x i;rw [List.eq_of_mem_replicate i];omega,fun j _=>d j,by rw [d];exact Nat.pow_pos (by omega),by simp [Sm,d]⟩,Blk.new _ _ _,(Below.refl _ _).alloc Qr _⟩
 case round =>
  obtain ⟨k,L,hk,rfl,q,H,hB,b⟩:=hrel;have u:=Qh ((Kp.refl w).below b);have f:=Qh H;have h:=Qh hB;have a:=Qh q;clear H hB q;by_cases hkn:k<n
  ·obtain ⟨g,o,rfl,Z,s⟩:=(y.keep u.out).at2 (by omega)
   have t:=s k hkn;obtain ⟨x,z,i,d⟩:∃ x z,wd l k=x/\wd L k=z:=⟨_,_,rfl,rfl⟩;have B:x<4294967296:=by rw [<- i];exact y.lt _
   have Q:z<4294967296:=by rw [<- d];exact bN f.out.1 _
   rw [i] at t;have D:=h.out.cell k;rw [aB (by rw [a.out];omega),d] at D;have V:=h.out.frozen k;have r:=h.out.cell (k+1);rw [aB (by rw [a.out];omega)] at r;have J:=h.out.frozen (k+1);have HX:=Qh i;have N:=Qh d;clear i d s;go_wp2;obtain ⟨X,S,E,p⟩:=AV (z:=z) B W (by rw [<- N.out];exact f.out.2.2.1);rw [X,S];go_roundw
   case rel =>
    have T:x*2^m/4294967296<4294967296:=Nat.lt_trans p (Nat.lt_of_le_of_lt (Nat.pow_le_pow_right (by omega) (show m<=31 by omega)) (by decide));refine ⟨k+1,(L.set k (z+x*2^m%4294967296)).set (k+1) (x*2^m/4294967296),by omega,by go_num,by rw [List.length_set,List.length_set];exact a.out,⟨wds_set (wds_set f.out.1 _ E) _ T,?_,?_,?_⟩,(h.out.setW k _ _ rfl).setW (k+1) _ _ rfl,(b.setCell Qr _).setCell Qr _⟩
    ·intro j M;rw [bS,if_neg (by omega),bS,if_neg (by omega)];exact f.out.2.1 j (by omega)
    ·rw [bS,if_pos ⟨rfl,by rw [List.length_set,a.out];omega⟩];exact p
    rw [cf _ _ _ (by rw [List.length_set,a.out];omega),cf _ _ _ (by rw [a.out];omega),Sm,HX.out];have I:=f.out.2.2.2;rw [Sm,N.out] at I;have O:=Bn.split_mul (x*2^m) (4294967296^k);have P:(Sm (wd l) k+x*4294967296^k)*2^m=Sm (wd l) k*2^m+x*4294967296^k*2^m:=Nat.add_mul _ _ _;have R:x*4294967296^k*2^m=x*2^m*4294967296^k:=by rw [Nat.mul_assoc,Nat.mul_comm (4294967296^k),<- Nat.mul_assoc]
    rw [Nat.pow_succ,P,R];exact CV I O
   case measure=>simp [intOf];omega
  have v:k=n:=by omega
  subst v
  have K:val L=val l*2^m:=by
   have G:=f.out.2.2.2;rw [bm L (by rw [a.out];exact Qr),bm l (by rw [<- U.out];omega)] at G;exact G
  have Y:=Qh K;clear K;go_wp2;go_ret;exact ⟨L,rfl,f.out.1,a.out,Y.out,h.out,b⟩

theorem Ez (w:World) (A n c l) (k:Wd w A n c l) (p:n<=1099511627776) (m:Nat) (b:m<32) :
 Calls Tryz.prog 200 #[.slice A n c,.int .i64 (m:Nat)] w fun e a=>∃ L g,e=.returned (.slice (some ⟨g,0,none⟩) (n+1) (n+1))/\w.heap.size<=g/\Wds L/\L.length=n+1/\val L=val l*2^m/\Blk a g 173 (cellsOf L)/\Below w.heap.size w a :=
 (FC w A n c l k p m b).mono fun _ _ ⟨L,i,f,o,h,j,d⟩=>⟨L,w.heap.size,i,Qr,f,o,h,j,d⟩
end Go.Proofs.YtndhgcfajlalhaaGreatDoor
namespace Bn
theorem sS (f:Nat->Nat) (j t:Nat):Sm f (j+t)=Sm f j+4294967296^j*Sm (fun i=>f (j+i)) t:=by
 induction t with
 | zero=>simp [Sm]
 | succ t ih =>
  rw [<- Nat.add_assoc,Sm,ih,Sm,Nat.mul_add,Nat.pow_add];have:f (j+t)*(4294967296^j*4294967296^t)=4294967296^j*(f (j+t)*4294967296^t):=by rw [Nat.mul_left_comm]
  omega
def wn (L:List Nat) (off:Nat) (i:Nat):Nat:=wd L (off+i)
def Win (L L':List Nat) (off n:Nat):Prop:=L'.length=L.length/\Wds L'/\∀ j,j<off\/off+n<=j->wd L' j=wd L j
theorem pq {L:List Nat}{N:Nat}(h:val L<4294967296^N):Sm (wd L) N=val L/\∀ j,N<=j->wd L j=0:=by
 have key:∀ M,N<=M->Sm (wd L) M=Sm (wd L) N->Sm (wd L) (M+1)=Sm (wd L) N/\wd L M=0:=by
  intro M g b
  have f:Sm (wd L) (M+1)<=val L:=by
   rw [<- bm L (Nat.le_max_left L.length (M+1))];exact qG _ (Nat.le_max_right _ _)
  rw [Sm,b] at f;have i:4294967296^N<=4294967296^M:=Nat.pow_le_pow_right (by omega) g
  have a:wd L M=0:=by
   rcases Nat.eq_zero_or_pos (wd L M) with a | a
   ·exact a
   have:1*4294967296^M<=wd L M*4294967296^M:=Nat.mul_le_mul_right _ a;omega
  refine ⟨?_,a⟩;rw [Sm,b,a];simp
 have all:∀ d,Sm (wd L) (N+d)=Sm (wd L) N:=by
  intro d
  induction d with
  | zero=>rfl
  | succ d ih=>rw [<- Nat.add_assoc];exact (key (N+d) (by omega) ih).1
 refine ⟨?_,fun j c=>?_⟩
 ·have:=all L.length
  rw [bm L (by omega)] at this;exact this.symm
 have:=(key j c (by have:=all (j-N);rwa [show N+(j-N)=j by omega] at this)).2;exact this
theorem sT {L:List Nat}{j t:Nat}(h:val L<4294967296^(j+t)):val L=Sm (wd L) j+4294967296^j*Sm (wn L j) t:=by
 rw [<- (pq h).1,sS];rfl
theorem qL {L a:List Nat}{j t:Nat}(h:val L<4294967296^(j+t)) (hw:Win L a j t):val a=Sm (wd L) j+4294967296^j*Sm (wn a j) t:=by
 have g:Sm (wd a) j=Sm (wd L) j:=dN fun i b=>hw.2.2 i (.inl b)
 have f:Sm (wd a) (j+t)=val a:=by
  have k:∀ i,j+t<=i->wd a i=0:=fun i b=>by rw [hw.2.2 i (.inr b)];exact (pq h).2 i b
  have:∀ d,Sm (wd a) (j+t+d)=Sm (wd a) (j+t):=by
   intro d
   induction d with
   | zero=>rfl
   | succ d ih=>rw [<- Nat.add_assoc,Sm,k _ (by omega),ih];simp
  have c:=this a.length;rw [bm a (by omega)] at c;exact c.symm
 rw [<- f,sS,g];rfl
theorem Win.trans {A B C:List Nat}{j t:Nat}(h:Win A B j t) (k:Win B C j t):Win A C j t :=
 ⟨k.1.trans h.1,k.2.1,fun i a=>(k.2.2 i a).trans (h.2.2 i a)⟩

theorem xV (f:Nat->Nat) (nn:Nat):Sm f (nn+2)=f (nn+1)*(4294967296^nn*4294967296)+f nn*4294967296^nn+Sm f nn:=by
 rw [Sm,Sm,Nat.pow_succ];omega
theorem xW (f:Nat->Nat) (nn:Nat):Sm f (nn+3)=(f (nn+2)*4294967296+f (nn+1))*(4294967296^nn*4294967296)+f nn*4294967296^nn+Sm f nn:=by
 rw [Sm,xV,Nat.pow_succ,Nat.pow_succ,Nat.add_mul]
 have:f (nn+2)*(4294967296^nn*4294967296*4294967296)=f (nn+2)*4294967296*(4294967296^nn*4294967296):=by
  rw [Nat.mul_assoc (f (nn+2)),Nat.mul_comm 4294967296 (4294967296^nn*4294967296)]
 omega
theorem AW {head D third top lowv V P:Nat}(d:P=head*(D*4294967296)+third) (h:V=top*(D*4294967296)+lowv) (g:lowv<D*4294967296) (a:P<V*4294967296):head<(top+1)*4294967296:=by
 have b:V<(top+1)*(D*4294967296):=by rw [Nat.add_mul];omega
 have f:V*4294967296<=(top+1)*(D*4294967296)*4294967296:=Nat.mul_le_mul_right _ (Nat.le_of_lt b)
 have c:head*(D*4294967296)<(top+1)*4294967296*(D*4294967296):=by
  have:(top+1)*(D*4294967296)*4294967296=(top+1)*4294967296*(D*4294967296):=by rw [Nat.mul_assoc,Nat.mul_comm (D*4294967296),<- Nat.mul_assoc]
  omega
 exact Nat.lt_of_mul_lt_mul_right c
theorem xX {head top:Nat}(h:head<(top+1)*4294967296) (a:2147483648<=top):head/top<=4294967298:=by
 have:head/top<4294967299:=by
  rw [Nat.div_lt_iff_lt_mul (by omega)];rw [Nat.add_mul] at h;have:4294967299*top=top*4294967296+3*top:=by omega
  omega
 omega
theorem ol {P a g V q:Nat}(i:0<V) (c:q=P/V) (d:q<=g) (h:a+g*V=P):g=q/\a=P%V:=by
 have f:g*V<=P:=by omega
 have j:g<=P/V:=(Nat.le_div_iff_mul_le i).2 f;have b:g=q:=by omega
 refine ⟨b,?_⟩;have k:=Nat.div_add_mod P V;rw [b,c,Nat.mul_comm] at h;omega
theorem step_one {P b d g V q T c:Nat}(n:0<V) (m:q=P/V) (k:g<=q+1) (l:b<T) (h:b+g*V=P+1*T) (o:d+c*T=b+V) (r:c<=1) (j:d<T):g=q+1/\d=P%V:=by
 have f:=Nat.div_add_mod P V;have p:=Nat.mod_lt P n;rw [<- m] at f
 have a:q<g:=by
  rcases Nat.lt_or_ge q g with a | a
  ·exact a
  have:g*V<=q*V:=Nat.mul_le_mul_right _ a;rw [Nat.mul_comm V q] at f;omega
 have i:g=q+1:=by omega
 refine ⟨i,?_⟩;rw [i,Nat.add_mul] at h;rw [Nat.mul_comm V q] at f;rcases (show c=0\/c=1 by omega) with rfl | rfl
 ·omega
 omega
theorem CW {f V g i low Bj P q b:Nat}(h:i+V*g=f) (c:i=low+Bj*P) (a:b=low+Bj*(P%V)) (k:q=P/V) (d:low<Bj) (m:0<V):b+V*(g+q*Bj)=f/\b<V*Bj:=by
 have l:=Nat.div_add_mod P V;have j:=Nat.mod_lt P m;subst k;constructor
 ·rw [a,<- h,c,Nat.mul_add]
  have:Bj*P=Bj*(P%V)+V*(P/V*Bj):=by
   conv=>lhs;rw [<- l]
   rw [Nat.mul_add,Nat.mul_comm (P/V),<- Nat.mul_assoc V,Nat.mul_comm V Bj,Nat.mul_assoc];omega
  omega
 rw [a];have:Bj*(P%V+1)<=Bj*V:=Nat.mul_le_mul_left _ j;rw [Nat.mul_add] at this;rw [Nat.mul_comm V];omega
theorem vo {U low Bj P V:Nat}(b:U=low+Bj*P) (h:U<V*(Bj*4294967296)):P<V*4294967296:=by
 have a:Bj*P<Bj*(V*4294967296):=by
  have:V*(Bj*4294967296)=Bj*(V*4294967296):=by rw [Nat.mul_left_comm]
  omega
 exact Nat.lt_of_mul_lt_mul_left a
theorem vp {a b q r s:Nat}(c:0<s) (hb:0<b) (h:r+b*s*q=a*s) (f:r<b*s):q=a/b/\r/s=a%b:=by
 have g:a*s/(b*s)=q:=by
  rw [<- h,Nat.add_comm,Nat.mul_add_div (Nat.mul_pos hb c),Nat.div_eq_of_lt f];rfl
 have d:a*s%(b*s)=r:=by
  rw [<- h,Nat.add_comm,Nat.mul_add_mod,Nat.mod_eq_of_lt f]
 rw [Nat.mul_div_mul_right _ _ c] at g;rw [Nat.mul_mod_mul_right] at d;refine ⟨g.symm,?_⟩;rw [<- d,Nat.mul_div_cancel _ c]
end Bn
namespace Bn
theorem pr {l:List Nat}{k i:Nat}(h:i<k):wd (l.take k) i=wd l i:=by
 simp [wd,List.getD,h]
theorem xY {a c:List Nat}{nn m b:Nat}(A:Wds a) (f:a.length=nn+2) (n:wd a (nn+1)=b) (h:2147483648<=b*2^m) (j:(b+1)*2^m<=4294967296) (y:c.length=nn+3) (q:Wds c) (l:val c=val a*2^m) :
 val (c.take (nn+2))=val a*2^m/\2147483648<=wd c (nn+1):=by
 have z:val a=Sm (wd a) (nn+2):=by rw [fK,f]
 have o:Sm (wd a) (nn+1)<4294967296^(nn+1):=fj (fun i _=>bN A i);rw [Sm,n] at z
 have g:val a*2^m<4294967296^(nn+2):=by
  have s:val a<(b+1)*4294967296^(nn+1):=by rw [Nat.add_mul];omega
  have B:val a*2^m<(b+1)*4294967296^(nn+1)*2^m:=Nat.mul_lt_mul_of_pos_right s (Nat.pow_pos (by omega));have E:(b+1)*4294967296^(nn+1)*2^m=(b+1)*2^m*4294967296^(nn+1):=by rw [Nat.mul_assoc,Nat.mul_comm (4294967296^(nn+1)),<- Nat.mul_assoc]
  have C:(b+1)*2^m*4294967296^(nn+1)<=4294967296*4294967296^(nn+1):=Nat.mul_le_mul_right _ j;have D:4294967296*4294967296^(nn+1)=4294967296^(nn+2):=by rw [Nat.mul_comm,<- Nat.pow_succ]
  omega
 have p:=pq (L:=c) (N:=nn+2) (by rw [l];exact g)
 have d:val (c.take (nn+2))=val a*2^m:=by
  have v:(c.take (nn+2)).length=nn+2:=by rw [List.length_take];omega
  rw [fK,v,<- l,<- p.1];exact dN fun i w=>pr w
 refine ⟨d,?_⟩;have F:Sm (wd c) (nn+1)<4294967296^(nn+1):=fj (fun i _=>bN q i);have t:=p.1;rw [Sm,l] at t;rcases Nat.lt_or_ge (wd c (nn+1)) 2147483648 with k | k
 ·exfalso
  have x:(wd c (nn+1)+1)*4294967296^(nn+1)<=2147483648*4294967296^(nn+1):=Nat.mul_le_mul_right _ k;rw [Nat.add_mul] at x;have r:2147483648*4294967296^(nn+1)<=b*2^m*4294967296^(nn+1):=Nat.mul_le_mul_right _ h
  have u:b*2^m*4294967296^(nn+1)<=val a*2^m:=by
   have:b*4294967296^(nn+1)*2^m<=val a*2^m:=Nat.mul_le_mul_right _ (by omega);have e:b*2^m*4294967296^(nn+1)=b*4294967296^(nn+1)*2^m:=by rw [Nat.mul_assoc,Nat.mul_comm (2^m),<- Nat.mul_assoc]
   omega
  omega
 exact k
theorem sU {x k m:Nat}(a:k+m=31) (c:2^k<=x) (b:x<2^(k+1)):2147483648<=x*2^m/\(x+1)*2^m<=4294967296:=by
 have d:2^k*2^m=2147483648:=by rw [<- Nat.pow_add,a]
 have h:2^(k+1)*2^m=4294967296:=by rw [<- Nat.pow_add,show k+1+m=32 by omega]
 have g:2^k*2^m<=x*2^m:=Nat.mul_le_mul_right _ c;have f:(x+1)*2^m<=2^(k+1)*2^m:=Nat.mul_le_mul_right _ b;omega
end Bn
namespace Bn
theorem vr {L lv:List Nat}{V nn k pa pb pc top next:Nat}(j:Wds L) (d:Wds lv) (a:lv.length=nn+2) (o:val lv=V) (q:0<k) (g:val L<V*4294967296^k)
 (n:wd L (k-1+(nn+2))=pa) (h:wd L (k-1+(nn+1))=pb) (m:wd L (k-1+nn)=pc) (f:wd lv (nn+1)=top) (b:wd lv nn=next) :
 ∃ lowp lowv,Sm (wn L (k-1)) (nn+3)=(pa*4294967296+pb)*(4294967296^nn*4294967296)+pc*4294967296^nn+lowp/\lowp<4294967296^nn/\V=top*(4294967296^nn*4294967296)+next*4294967296^nn+lowv/\lowv<4294967296^nn /\
  Sm (wn L (k-1)) (nn+3)<V*4294967296/\val L=Sm (wd L) (k-1)+4294967296^(k-1)*Sm (wn L (k-1)) (nn+3)/\val L<4294967296^(k-1+(nn+3)):=by
 have l:V<4294967296^(nn+2):=by rw [<- o,<- a];exact cF d
 have c:val L<4294967296^(k-1+(nn+3)):=by
  have p:V*4294967296^k<=4294967296^(nn+2)*4294967296^k:=Nat.mul_le_mul_right _ (Nat.le_of_lt l);rw [<- Nat.pow_add,show nn+2+k=k-1+(nn+3) by omega] at p;omega
 have hw:=sT c;refine ⟨Sm (wn L (k-1)) nn,Sm (wd lv) nn,?_,fj fun i _=>bN j _,?_,fj fun i _=>bN d _,?_,hw,c⟩
 ·rw [xW];unfold wn;rw [n,h,m]
 ·rw [<- o,fK,a,xV,f,b]
 apply vo (Bj:=4294967296^(k-1)) hw;have:4294967296^k=4294967296^(k-1)*4294967296:=by rw [<- Nat.pow_succ];congr 1;omega
 rw [<- this];exact g
theorem mo {P V D hd pc a top next lowv g r:Nat}(j:P=hd*(D*4294967296)+pc*D+a) (d:a<D) (k:V=top*(D*4294967296)+next*D+lowv) (b:0<V) (c:P<V*4294967296) (f:g*top+r=hd)
 (h:4294967296<=g\/r*4294967296+pc<g*next):P/V<g:=by
 have i:P/V*V<=P:=Nat.div_mul_le_self _ _;rcases h with h | h
 ·have:P/V<4294967296:=by rw [Nat.div_lt_iff_lt_mul b,Nat.mul_comm];exact c
  omega
 exact xM (third:=0) j d k f i h
theorem mq {P V D hd pc b top next lowv g r:Nat}(n:P=hd*(D*4294967296)+pc*D+b) (o:V=top*(D*4294967296)+next*D+lowv) (j:lowv<D) (d:0<V) (c:0<top) (a:next<4294967296) (i:hd<(top+1)*4294967296) (l:g*top+r=hd)
 (h:4294967296<=r\/(g<4294967296/\g*next<=r*4294967296+pc)):g<4294967296/\g<=P/V+1:=by
 have k:g<4294967296:=by
  rcases h with h | h
  ·rcases Nat.lt_or_ge g 4294967296 with f | f
   ·exact f
   have:=qJ i l f;omega
  exact h.1
 refine ⟨k,?_⟩
 have m:P<(P/V+1)*V:=by
  have p:=Nat.div_add_mod P V;have q:=Nat.mod_lt P d;rw [Nat.add_mul,Nat.mul_comm (P/V)];omega
 exact xN n o j l m c (by omega) a (h.imp id fun h=>h.2)
theorem qM {P V D hd pc a top next lowv pb:Nat}(h:P=hd*(D*4294967296)+pc*D+a) (g:a<D) (c:pc<4294967296) (i:V=top*(D*4294967296)+next*D+lowv) (b:0<top):P/V<=hd/top:=by
 have _:=pb;have d:P/V*V<=P:=Nat.div_mul_le_self _ _;refine xK (D:=D*4294967296) (third:=pc*D+a) (low:=next*D+lowv) (v:=V) (head:=hd) (P:=P) (by omega) ?_ (by omega) d b;have f:(pc+1)*D<=4294967296*D:=Nat.mul_le_mul_right _ c;rw [Nat.add_mul,Nat.mul_comm 4294967296] at f;omega
end Bn

/- Walks: a multiple taken from a window of words, and added back, in place. -/
namespace Go.Proofs.YtndhgcfajlalhaaGreatDoor
open Go Go.RowKit Bn
attribute [local go_sem ↓] Go.wp_at_zero Go.wp_at_succ

theorem Wd.keepG {w f:World}{A:Option Addr}{n c g:Nat}{l:List Nat}(h:Wd w A n c l) (b:∀ a,A=some a->a.block≠g) (j:w.grownBy f (some g)):Wd f A n c l :=
 ⟨h.1,h.2.1,h.2.2.1,fun k=>by
  obtain ⟨i,o,cur,fr,e,hb,m⟩:=h.2.2.2 k;refine ⟨i,o,cur,fr,e,?_,m⟩
  exact hb.same (j.block i hb.lt (by intro d;injection d with d;exact b _ e d))⟩
theorem om (w:World) (row:Option Nat):w.grownBy w row:=⟨rfl,rfl,rfl,Qr,fun _ _ _=>rfl⟩
theorem only_drewN {a w:World}{row:Option Nat}(h:a.grownBy w row) (n:Nat):a.grownBy (w.drewN n) row:=⟨h.os,h.tape,h.output,h.size,h.block⟩
theorem qN {a w:World}{g:Nat}(h:a.grownBy w (some g)) (i:Nat) (u:Value):a.grownBy (w.setCell ⟨g,i,none⟩ u) (some g) :=
 ⟨h.os,h.tape,h.output,by simpa [World.setCell] using h.size,fun c d b=>(Below.heap_setCell w _ u c (by
  rintro rfl
  exact b rfl)).trans (h.block c d b)⟩

theorem qO {x y a f q:Nat}(A:x<4294967296) (D:y<4294967296) (C:a<4294967296) (B:q<4294967296) (g:f<=1) {p s d1 d2:Int}(n:IntKind.u64.wrap ((q:Int)*(y:Int))=p) (r:IntKind.u64.wrap ((a:Int)+p)=s)
 (o:IntKind.u64.wrap ((x:Int)-s%4294967296)=d1) (t:IntKind.u64.wrap (d1-(f:Int))=d2) :
 ∃ d b c:Nat,d<4294967296/\b<=1/\c<4294967296/\s/4294967296=(d:Int)/\d2/9223372036854775808=(b:Int)/\d2%4294967296=(c:Int)/\c+q*y+f+a=x+(d+b)*4294967296/\(y=0->d=0):=by
 have m:y=0->q*y=0:=by rintro rfl;rfl
 rw [IntKind.wrap_u64] at n r;have v:q*y<=4294967295*4294967295:=Nat.mul_le_mul (by omega) (by omega);have e:(q:Int)*(y:Int)=((q*y:Nat):Int):=by simp
 rw [e] at n;generalize q*y=z at *;have w:s=((a+z:Nat):Int):=by omega
 subst w;have u:(((a+z:Nat):Int))%4294967296=(((a+z)%4294967296:Nat):Int):=by omega
 rw [u] at o;obtain ⟨b,c,j,k,l,i,E⟩:=oj A (Nat.mod_lt (a+z) (by omega)) g o t;exact ⟨(a+z)/4294967296,b,c,by omega,j,k,by omega,l,i,by omega,fun h=>by rw [m h];omega⟩

def FD (L L' l':List Nat) (off nu q k cr br:Nat):Prop:=Win L L' off nu/\((∀ j,off+k<=j->wd L' j=wd L j)/\(l'.length<k->cr=0))/\Sm (wn L' off) k+q*Sm (wd l') k=Sm (wn L off) k+(cr+br)*4294967296^k
theorem AX {b f k a x j q y g i c d P PB:Nat}(h:b+f=k+a*P) (e:a=i+g) (n:j+q*y+g+i=x+(c+d)*4294967296) (o:PB=P*4294967296):b+j*P+(f+q*y*P)=k+x*P+(c+d)*PB:=by
 subst e;subst o;have m:(j+q*y+g+i)*P=(x+(c+d)*4294967296)*P:=by rw [n]
 have l:(c+d)*(P*4294967296)=(c+d)*4294967296*P:=by rw [Nat.mul_comm P,Nat.mul_assoc]
 rw [Nat.add_mul,Nat.add_mul,Nat.add_mul,Nat.add_mul] at m;rw [Nat.add_mul] at h;rw [l];omega
theorem qP (w:World) (l off c cu:Nat) (L:List Nat) (r:Blk w l 173 (cellsOf L)) (u:Wds L) (W:off+c<=L.length) (ad:c<=4398046511104)
 (A' n' c' l') (I:Wd w A' n' c' l') (D:∀ a,A'=some a->a.block≠l) (P:n'<c) (q:Nat) (hq:q<4294967296) :
 Calls Tryz.prog 201 #[.slice (some ⟨l,off,none⟩) c cu,.slice A' n' c',.int .u64 (q:Nat)] w fun e Q=>∃ (f:List Nat) (b:Nat),b<=1/\e=.returned (.bool (b==1))/\Blk Q l 173 (cellsOf f)/\Win L f off c/\Sm (wn f off) c+q*val l'=Sm (wn L off) c+b*4294967296^c/\w.grownBy Q (some l):=by
 have z:=Qh I.2.1;have S:=Qh r;clear r;go_in;go_wp2;go_loopw [7,8,13] (fun cv bv N wr=>∃ (k m i:Nat) (f:List Nat),k<=c/\N=.int .i64 (k:Nat)/\cv=.int .u64 (m:Nat)/\bv=.int .u64 (i:Nat)/\m<4294967296/\i<=1/\FD L f l' off c q k m i/\Blk wr l 173 (cellsOf f)/\w.grownBy wr (some l)) (fun _ _ N _=>c-(intOf N).toNat)
 case atStart=>exact ⟨0,0,0,L,Nat.zero_le _,rfl,rfl,rfl,by omega,by omega,⟨⟨rfl,u,fun _ _=>rfl⟩,⟨fun _ _=>rfl,fun h=>absurd h (by omega)⟩,by simp [Sm]⟩,S.out,om _ _⟩
 case round =>
  obtain ⟨k,m,i,f,hk,rfl,rfl,rfl,U,v,hI,hB,X⟩:=hrel;have g:=Qh hI;have C:=Qh hB;have H:=Qh X;clear hI hB X;by_cases hkn:k<c
  ·obtain ⟨x,y,A,T⟩:∃ x y,wd L (off+k)=x/\wd l' k=y:=⟨_,_,rfl,rfl⟩
   have R:x<4294967296:=by rw [<- A];exact bN u _
   have E:y<4294967296:=by rw [<- T];exact I.lt _
   have O:=C.out.cell (off+k);rw [aB (by rw [g.out.1.1];omega),g.out.2.1.1 _ Qr,A] at O;have ac:=C.out.frozen (off+k);have HX:=Qh A;have J:=Qh T;obtain ⟨p,Z⟩:∃ d,IntKind.u64.wrap ((q:Int)*(y:Int))=d:=⟨_,rfl⟩;obtain ⟨s,hs⟩:∃ d,IntKind.u64.wrap ((m:Int)+p)=d:=⟨_,rfl⟩;obtain ⟨d1,o⟩:∃ d,IntKind.u64.wrap ((x:Int)-s%4294967296)=d:=⟨_,rfl⟩;obtain ⟨d2,n⟩:∃ d,IntKind.u64.wrap (d1-(i:Int))=d:=⟨_,rfl⟩;have HD:=Qh (qO R E U hq v Z hs o n);clear A T;go_wp2_with (go_at_call 172;(refine (mh _ A' n' c' l' ?_ k y J.out (by omega)).mono ?_);exact I.keepG D H.out;rintro e Q ⟨rfl,rfl⟩);clear Z hs o n;obtain ⟨cn,bn,B,F,V,M,ec,eb,el,hh,hz⟩:=HD.out;rw [ec,eb];go_roundw
   case rel =>
    refine ⟨k+1,cn,bn,f.set (off+k) B,by omega,by go_num,rfl,rfl,F,V,⟨⟨by rw [List.length_set];exact g.out.1.1,wds_set g.out.1.2.1 _ M,?_⟩,⟨?_,?_⟩,?_⟩,C.out.setW (off+k) _ _ el,qN H.out _ _⟩
    ·intro j K;rw [bS,if_neg (by omega)];exact g.out.1.2.2 j K
    ·intro j K;rw [bS,if_neg (by omega)];exact g.out.2.1.1 j (by omega)
    ·intro ab
     apply hz;rw [<- J.out];exact eM (by omega)
    have e1:Sm (wn (f.set (off+k) B) off) k=Sm (wn f off) k:=dN fun j K=>by unfold wn;rw [bS,if_neg (by omega)]
    have e2:wn (f.set (off+k) B) off k=B:=by unfold wn;rw [bS,if_pos ⟨rfl,by rw [g.out.1.1];omega⟩]
    have e3:wn L off k=x:=HX.out;rw [Sm,Sm,Sm,e1,e2,e3,J.out,Nat.mul_add,<- Nat.mul_assoc];exact AX g.out.2.2 rfl hh (by rw [Nat.pow_succ])
   case measure=>simp [intOf];omega
  have G:k=c:=by omega
  subst G
  have t:m=0:=by
   exact g.out.2.1.2 (by rw [<- z.out];exact P)
  have HC:=Qh t;clear t;go_wp2;go_ret;refine ⟨f,i,v,?_,C.out,g.out.1,?_,H.out⟩
  ·rcases (show i=0\/i=1 by omega) with rfl | rfl <;> rfl
  have Y:=g.out.2.2;rw [HC.out,Nat.zero_add,bm l' (by rw [<- z.out];omega)] at Y;exact Y
theorem vt {x y a:Nat}(g:x<4294967296) (d:y<4294967296) (f:a<=1) {p s:Int}(c:IntKind.u64.wrap ((x:Int)+(y:Int))=p) (b:IntKind.u64.wrap ((a:Int)+p)=s):s=((a+x+y:Nat):Int)/\(a+x+y)/4294967296<=1:=by
 rw [IntKind.wrap_u64] at c b;omega
def EA (L L' l':List Nat) (off nu k cr:Nat):Prop:=Win L L' off nu/\(∀ j,off+k<=j->wd L' j=wd L j)/\Sm (wn L' off) k+cr*4294967296^k=Sm (wn L off) k+Sm (wd l') k
theorem xZ (w:World) (h off c W:Nat) (L:List Nat) (m:Blk w h 173 (cellsOf L)) (i:Wds L) (Q:off+c<=L.length) (T:c<=4398046511104)
 (A' n' c' l') (v:Wd w A' n' c' l') (q:∀ a,A'=some a->a.block≠h) (R:n'<=c) :
 Calls Tryz.prog 202 #[.slice (some ⟨h,off,none⟩) c W,.slice A' n' c'] w fun e I=>∃ (f:List Nat) (b:Nat),b<=1/\e=.returned (.tuple #[])/\Blk I h 173 (cellsOf f)/\Win L f off c/\Sm (wn f off) c+b*4294967296^c=Sm (wn L off) c+val l'/\w.grownBy I (some h):=by
 have D:=Qh v.2.1;have A:=Qh m;clear m;go_in;go_wp2;go_loopw [4,8] (fun U G wr=>∃ (k b:Nat) (f:List Nat),k<=c/\G=.int .i64 (k:Nat)/\U=.int .u64 (b:Nat)/\b<=1/\EA L f l' off c k b/\Blk wr h 173 (cellsOf f)/\w.grownBy wr (some h)) (fun _ G _=>c-(intOf G).toNat)
 case atStart=>exact ⟨0,0,L,Nat.zero_le _,rfl,rfl,by omega,⟨⟨rfl,i,fun _ _=>rfl⟩,fun _ _=>rfl,by simp [Sm]⟩,A.out,om _ _⟩
 case round =>
  obtain ⟨k,b,f,hk,rfl,rfl,l,N,hB,J⟩:=hrel;have g:=Qh N;have n:=Qh hB;have u:=Qh J;clear N hB J;by_cases hkn:k<c
  ·obtain ⟨x,y,o,B⟩:∃ x y,wd L (off+k)=x/\wd l' k=y:=⟨_,_,rfl,rfl⟩
   have z:x<4294967296:=by rw [<- o];exact bN i _
   have r:y<4294967296:=by rw [<- B];exact v.lt _
   have H:=n.out.cell (off+k);rw [aB (by rw [g.out.1.1];omega),g.out.2.1 _ Qr,o] at H;have Y:=n.out.frozen (off+k);have HX:=Qh o;have O:=Qh B;have V:(0:Int)<=(k:Int):=by omega
   have S:(k:Int)<(c:Int):=by omega
   have E:IntKind.u64.wrap (x:Int)=(x:Int):=IntWalk.u64_in _ ⟨by omega,by omega⟩;obtain ⟨p,M⟩:∃ d,IntKind.u64.wrap ((x:Int)+(y:Int))=d:=⟨_,rfl⟩;obtain ⟨s,P⟩:∃ d,IntKind.u64.wrap ((b:Int)+p)=d:=⟨_,rfl⟩;have HD:=Qh (vt z r l M P);clear o B;go_wp2_with fail;go_quiet ((go_at_call 172;exact Calls.quiet_of_same (xF _ A' n' c' l' ((v.keepG q u.out).keep ((Kp.refl _).drewN _)) k y O.out (by omega))));clear M P E;go_wp2;obtain ⟨es,C⟩:=HD.out;rw [es];go_roundw
   case rel =>
    refine ⟨k+1,(b+x+y)/4294967296,f.set (off+k) ((b+x+y)%4294967296),by omega,by go_num,by go_num,C,⟨⟨by rw [List.length_set];exact g.out.1.1,wds_set g.out.1.2.1 _ (Nat.mod_lt _ (by omega)),?_⟩,?_,?_⟩,?_,qN (only_drewN u.out _) _ _⟩
    ·intro j F;rw [bS,if_neg (by omega)];exact g.out.1.2.2 j F
    ·intro j F;rw [bS,if_neg (by omega)];exact g.out.2.1 j (by omega)
    ·have E:Sm (wn (f.set (off+k) ((b+x+y)%4294967296)) off) k=Sm (wn f off) k:=dN fun j F=>by unfold wn;rw [bS,if_neg (by omega)]
     have X:wn (f.set (off+k) ((b+x+y)%4294967296)) off k=(b+x+y)%4294967296:=by unfold wn;rw [bS,if_pos ⟨rfl,by rw [g.out.1.1];omega⟩]
     have Z:wn L off k=x:=HX.out;rw [Sm,Sm,Sm,E,X,Z,O.out,Nat.pow_succ];exact iB g.out.2.2
    exact (n.out.drewN _).setW (off+k) _ _ (by omega)
   case measure=>simp [intOf];omega
  have t:k=c:=by omega
  subst t;go_wp2;go_end0;refine ⟨f,b,l,rfl,n.out,g.out.1,?_,u.out⟩;have K:=g.out.2.2;rw [bm l' (by rw [<- D.out];omega)] at K;exact K
end Go.Proofs.YtndhgcfajlalhaaGreatDoor
namespace Go.Proofs
open Go.Shelf
def Tryz.lays170_ren:Go.Shelf.Ren:=⟨fun | 170=>65 | n=>n,fun | 70=>101 | 3=>3 | 0=>0 | 72=>104 | 37=>102 | 5=>5 | n=>n,fun | n=>n⟩
theorem Tryz.lays170:Go.Proofs.Lays.n170 Tryz.prog Tryz.lays170_ren:={
 mixed:=by kernel_rfl
 f170:=Tryz.func65.trans (congrArg some (by kernel_rfl))
 t0:=Tryz.underlying0
 a0:=Tryz.isAgg0
 z0:=Tryz.sizeOf0
 v0:=Tryz.zeroValue0
 t3:=Tryz.underlying3
 a3:=Tryz.isAgg3
 z3:=Tryz.sizeOf3
 v3:=Tryz.zeroValue3
 t37:=Tryz.underlying102
 a37:=Tryz.isAgg102
 z37:=Tryz.sizeOf102
 v37:=Tryz.zeroValue102
 t70:=Tryz.underlying101
 a70:=Tryz.isAgg101
 z70:=Tryz.sizeOf101
 v70:=Tryz.zeroValue101
 t72:=Tryz.underlying104
 a72:=Tryz.isAgg104
 z72:=Tryz.sizeOf104
 v72:=Tryz.zeroValue104 }
open Go.RowKit in
theorem Tryz.Builder_Len (B b:Nat) (a:List Value) (w:World) (h:Lib.IsBuilder 104 5 B b a w) :
 Calls Tryz.prog 65 #[.pointer (some ⟨b,0,none⟩)] w fun e c=>e=.returned (.int .i64 a.length)/\c=w:=Any.Builder_Len Tryz.lays170 B b a w h
def Tryz.lays169_ren:Go.Shelf.Ren:=⟨fun | 169=>67 | n=>n,fun | 70=>101 | 9=>9 | 0=>0 | 72=>104 | 37=>102 | 127=>150 | 3=>3 | 5=>5 | n=>n,fun | n=>n⟩
theorem Tryz.lays169:Go.Proofs.Lays.n169 Tryz.prog Tryz.lays169_ren:={
 mixed:=by kernel_rfl
 f169:=Tryz.func67.trans (congrArg some (by kernel_rfl))
 t0:=Tryz.underlying0
 a0:=Tryz.isAgg0
 z0:=Tryz.sizeOf0
 v0:=Tryz.zeroValue0
 t3:=Tryz.underlying3
 a3:=Tryz.isAgg3
 z3:=Tryz.sizeOf3
 v3:=Tryz.zeroValue3
 t9:=Tryz.underlying9
 a9:=Tryz.isAgg9
 z9:=Tryz.sizeOf9
 v9:=Tryz.zeroValue9
 t37:=Tryz.underlying102
 a37:=Tryz.isAgg102
 z37:=Tryz.sizeOf102
 v37:=Tryz.zeroValue102
 t70:=Tryz.underlying101
 a70:=Tryz.isAgg101
 z70:=Tryz.sizeOf101
 v70:=Tryz.zeroValue101
 t72:=Tryz.underlying104
 a72:=Tryz.isAgg104
 z72:=Tryz.sizeOf104
 v72:=Tryz.zeroValue104
 t127:=Tryz.underlying150
 a127:=Tryz.isAgg150
 z127:=Tryz.sizeOf150
 v127:=Tryz.zeroValue150 }
theorem Tryz.Builder_Extra_169:Builder.Extra Tryz.prog Tryz.lays169_ren:={
 sizeBuilder:=by kernel_rfl
 liesBuilder:=by kernel_rfl
 t5:=Tryz.underlying5
 a5:=Tryz.isAgg5
 z5:=Tryz.sizeOf5
 v5:=Tryz.zeroValue5
 infoByte:=by kernel_rfl
 cellsByte:=by kernel_rfl
 sizeByte:=by kernel_rfl
 neB5:=by decide }
open Go.RowKit in
theorem Tryz.Builder_String_any (B b:Nat) (l:List UInt8) (w:World) (h:Lib.IsBuilder 104 5 B b (Lib.byteCells l) w) (a:B<=w.heap.size) :
 Calls Tryz.prog 67 #[.pointer (some ⟨b,0,none⟩)] w fun e c=>e=.returned (.string ⟨l.toArray⟩)/\Below B w c:=Any.Builder_String_any Tryz.lays169 Tryz.Builder_Extra_169 B b l w h a
def Tryz.lays156_ren:Go.Shelf.Ren:=⟨fun | 156=>64 | 165=>102 | 166=>61 | 169=>67 | 240=>101 | 241=>145 | 276=>144 | 277=>173 | n=>n,fun | 31=>109 | 9=>9 | 3=>3 | 4=>4 | 0=>0 | 20=>20 | 72=>104 | 76=>105 | 70=>101 | 37=>102 | 75=>34 | 127=>150 | 164=>187 | 5=>5 | 80=>112 | n=>n,fun | n=>n⟩
theorem Tryz.lays156:Go.Proofs.Lays.n156 Tryz.prog Tryz.lays156_ren:={
 mixed:=by kernel_rfl
 f156:=Tryz.func64.trans (congrArg some (by kernel_rfl))
 f165:=Tryz.func102.trans (congrArg some (by kernel_rfl))
 f166:=Tryz.func61.trans (congrArg some (by kernel_rfl))
 f169:=Tryz.func67.trans (congrArg some (by kernel_rfl))
 f240:=Tryz.func101.trans (congrArg some (by kernel_rfl))
 f241:=Tryz.func145.trans (congrArg some (by kernel_rfl))
 f276:=Tryz.func144.trans (congrArg some (by kernel_rfl))
 f277:=Tryz.func173.trans (congrArg some (by kernel_rfl))
 t0:=Tryz.underlying0
 a0:=Tryz.isAgg0
 z0:=Tryz.sizeOf0
 v0:=Tryz.zeroValue0
 t3:=Tryz.underlying3
 a3:=Tryz.isAgg3
 z3:=Tryz.sizeOf3
 v3:=Tryz.zeroValue3
 t4:=Tryz.underlying4
 a4:=Tryz.isAgg4
 z4:=Tryz.sizeOf4
 v4:=Tryz.zeroValue4
 t9:=Tryz.underlying9
 a9:=Tryz.isAgg9
 z9:=Tryz.sizeOf9
 v9:=Tryz.zeroValue9
 t20:=Tryz.underlying20
 a20:=Tryz.isAgg20
 z20:=Tryz.sizeOf20
 v20:=Tryz.zeroValue20
 t31:=Tryz.underlying109
 a31:=Tryz.isAgg109
 z31:=Tryz.sizeOf109
 v31:=Tryz.zeroValue109
 t37:=Tryz.underlying102
 a37:=Tryz.isAgg102
 z37:=Tryz.sizeOf102
 v37:=Tryz.zeroValue102
 t70:=Tryz.underlying101
 a70:=Tryz.isAgg101
 z70:=Tryz.sizeOf101
 v70:=Tryz.zeroValue101
 t72:=Tryz.underlying104
 a72:=Tryz.isAgg104
 z72:=Tryz.sizeOf104
 v72:=Tryz.zeroValue104
 t75:=Tryz.underlying34
 a75:=Tryz.isAgg34
 z75:=Tryz.sizeOf34
 v75:=Tryz.zeroValue34
 t76:=Tryz.underlying105
 a76:=Tryz.isAgg105
 z76:=Tryz.sizeOf105
 v76:=Tryz.zeroValue105
 t127:=Tryz.underlying150
 a127:=Tryz.isAgg150
 z127:=Tryz.sizeOf150
 v127:=Tryz.zeroValue150
 t164:=Tryz.underlying187
 a164:=Tryz.isAgg187
 z164:=Tryz.sizeOf187
 v164:=Tryz.zeroValue187 }
theorem Tryz.Builder_Extra_156:Builder.Extra Tryz.prog Tryz.lays156_ren:={
 sizeBuilder:=by kernel_rfl
 liesBuilder:=by kernel_rfl
 t5:=Tryz.underlying5
 a5:=Tryz.isAgg5
 z5:=Tryz.sizeOf5
 v5:=Tryz.zeroValue5
 infoByte:=by kernel_rfl
 cellsByte:=by kernel_rfl
 sizeByte:=by kernel_rfl
 neB5:=by decide }
open Go.RowKit in
theorem Tryz.strings_Join_none (a:Option Addr) (c:Nat) (b:ByteArray) (w:World) :
 Calls Tryz.prog 64 #[.slice a 0 c,.string b] w fun e d=>e=.returned (.string ⟨#[]⟩)/\d=w:=Any.strings_Join_none Tryz.lays156 Tryz.Builder_Extra_156 a c b w
open Go.RowKit in
theorem Tryz.strings_Join (h o c:Nat) (d:List ByteArray) (a:ByteArray) (w:World) (b:∀ (j:Nat) x,d[j]?=some x->w.cell? ⟨h,o+j,none⟩=some (.string x)) (i:h<w.heap.size) (hN:d.length<=140737488355328) (f:d.length<=c) (g:(Lib.join (d.map (·.data.toList)) a.data.toList).length<=140737488355328) :
 Calls Tryz.prog 64 #[.slice (some ⟨h,o,none⟩) d.length c,.string a] w fun e k=>e=.returned (.string ⟨(Lib.join (d.map (·.data.toList)) a.data.toList).toArray⟩)/\Below w.heap.size w k:=Any.strings_Join Tryz.lays156 Tryz.Builder_Extra_156 h o c d a w b i hN f g
def Tryz.lays161_ren:Go.Shelf.Ren:=⟨fun | 161=>157 | 231=>180 | 227=>182 | 233=>183 | 235=>185 | 228=>208 | 197=>209 | 151=>210 | 260=>224 | 152=>225 | 137=>146 | 119=>235 | 224=>206 | 225=>205 | 217=>174 | 266=>204 | n=>n,fun | 9=>9 | 4=>4 | 3=>3 | 5=>5 | 117=>209 | 116=>208 | 0=>0 | 124=>212 | 105=>220 | 21=>21 | 119=>246 | 46=>181 | 139=>249 | 138=>248 | n=>n,fun | 3=>4 | 4=>5 | n=>n⟩
theorem Tryz.lays161:Go.Proofs.Lays.n161 Tryz.prog Tryz.lays161_ren:={
 mixed:=by kernel_rfl
 f119:=Tryz.func235.trans (congrArg some (by kernel_rfl))
 f137:=Tryz.func146.trans (congrArg some (by kernel_rfl))
 f151:=Tryz.func210.trans (congrArg some (by kernel_rfl))
 f152:=Tryz.func225.trans (congrArg some (by kernel_rfl))
 f161:=Tryz.func157.trans (congrArg some (by kernel_rfl))
 f197:=Tryz.func209.trans (congrArg some (by kernel_rfl))
 f217:=Tryz.func174.trans (congrArg some (by kernel_rfl))
 f224:=Tryz.func206.trans (congrArg some (by kernel_rfl))
 f225:=Tryz.func205.trans (congrArg some (by kernel_rfl))
 f227:=Tryz.func182.trans (congrArg some (by kernel_rfl))
 f228:=Tryz.func208.trans (congrArg some (by kernel_rfl))
 f231:=Tryz.func180.trans (congrArg some (by kernel_rfl))
 f233:=Tryz.func183.trans (congrArg some (by kernel_rfl))
 f235:=Tryz.func185.trans (congrArg some (by kernel_rfl))
 f260:=Tryz.func224.trans (congrArg some (by kernel_rfl))
 f266:=Tryz.func204.trans (congrArg some (by kernel_rfl))
 t0:=Tryz.underlying0
 a0:=Tryz.isAgg0
 z0:=Tryz.sizeOf0
 v0:=Tryz.zeroValue0
 t3:=Tryz.underlying3
 a3:=Tryz.isAgg3
 z3:=Tryz.sizeOf3
 v3:=Tryz.zeroValue3
 t4:=Tryz.underlying4
 a4:=Tryz.isAgg4
 z4:=Tryz.sizeOf4
 v4:=Tryz.zeroValue4
 t5:=Tryz.underlying5
 a5:=Tryz.isAgg5
 z5:=Tryz.sizeOf5
 v5:=Tryz.zeroValue5
 t9:=Tryz.underlying9
 a9:=Tryz.isAgg9
 z9:=Tryz.sizeOf9
 v9:=Tryz.zeroValue9
 t21:=Tryz.underlying21
 a21:=Tryz.isAgg21
 z21:=Tryz.sizeOf21
 v21:=Tryz.zeroValue21
 t46:=Tryz.underlying181
 a46:=Tryz.isAgg181
 z46:=Tryz.sizeOf181
 v46:=Tryz.zeroValue181
 t105:=Tryz.underlying220
 a105:=Tryz.isAgg220
 z105:=Tryz.sizeOf220
 v105:=Tryz.zeroValue220
 t116:=Tryz.underlying208
 a116:=Tryz.isAgg208
 z116:=Tryz.sizeOf208
 t117:=Tryz.underlying209
 a117:=Tryz.isAgg209
 z117:=Tryz.sizeOf209
 v117:=Tryz.zeroValue209
 t119:=Tryz.underlying246
 a119:=Tryz.isAgg246
 z119:=Tryz.sizeOf246
 t124:=Tryz.underlying212
 a124:=Tryz.isAgg212
 z124:=Tryz.sizeOf212
 v124:=Tryz.zeroValue212
 t138:=Tryz.underlying248
 a138:=Tryz.isAgg248
 z138:=Tryz.sizeOf248
 v138:=Tryz.zeroValue248
 t139:=Tryz.underlying249
 a139:=Tryz.isAgg249
 z139:=Tryz.sizeOf249
 v139:=Tryz.zeroValue249
 g3:=by kernel_rfl
 g4:=by kernel_rfl }
open Go.RowKit in
theorem Tryz.strings_TrimLeft_one (s:ByteArray) (c:UInt8) (b:c.toNat<128) (w:World) :
 Calls Tryz.prog 157 #[.string s,.string ⟨#[c]⟩] w fun e a=>e=.returned (.string ⟨(Lib.trimLeftB s.data.toList c).toArray⟩)/\a=w:=Any.strings_TrimLeft_one Tryz.lays161 s c b w
def Tryz.lays160_ren:Go.Shelf.Ren:=⟨fun | 160=>154 | 232=>181 | 231=>180 | 227=>182 | 234=>184 | 233=>183 | 236=>186 | 235=>185 | 228=>208 | 271=>211 | 151=>210 | 197=>209 | 120=>226 | 152=>225 | 260=>224 | 137=>146 | 119=>235 | 224=>206 | 225=>205 | 217=>174 | 266=>204 | n=>n,fun | 9=>9 | 4=>4 | 3=>3 | 5=>5 | 117=>209 | 116=>208 | 0=>0 | 124=>212 | 21=>21 | 105=>220 | 46=>181 | 119=>246 | 139=>249 | 138=>248 | n=>n,fun | 3=>4 | 4=>5 | n=>n⟩
theorem Tryz.lays160:Go.Proofs.Lays.n160 Tryz.prog Tryz.lays160_ren:={
 mixed:=by kernel_rfl
 f119:=Tryz.func235.trans (congrArg some (by kernel_rfl))
 f120:=Tryz.func226.trans (congrArg some (by kernel_rfl))
 f137:=Tryz.func146.trans (congrArg some (by kernel_rfl))
 f151:=Tryz.func210.trans (congrArg some (by kernel_rfl))
 f152:=Tryz.func225.trans (congrArg some (by kernel_rfl))
 f160:=Tryz.func154.trans (congrArg some (by kernel_rfl))
 f197:=Tryz.func209.trans (congrArg some (by kernel_rfl))
 f217:=Tryz.func174.trans (congrArg some (by kernel_rfl))
 f224:=Tryz.func206.trans (congrArg some (by kernel_rfl))
 f225:=Tryz.func205.trans (congrArg some (by kernel_rfl))
 f227:=Tryz.func182.trans (congrArg some (by kernel_rfl))
 f228:=Tryz.func208.trans (congrArg some (by kernel_rfl))
 f231:=Tryz.func180.trans (congrArg some (by kernel_rfl))
 f232:=Tryz.func181.trans (congrArg some (by kernel_rfl))
 f233:=Tryz.func183.trans (congrArg some (by kernel_rfl))
 f234:=Tryz.func184.trans (congrArg some (by kernel_rfl))
 f235:=Tryz.func185.trans (congrArg some (by kernel_rfl))
 f236:=Tryz.func186.trans (congrArg some (by kernel_rfl))
 f260:=Tryz.func224.trans (congrArg some (by kernel_rfl))
 f266:=Tryz.func204.trans (congrArg some (by kernel_rfl))
 f271:=Tryz.func211.trans (congrArg some (by kernel_rfl))
 t0:=Tryz.underlying0
 a0:=Tryz.isAgg0
 z0:=Tryz.sizeOf0
 v0:=Tryz.zeroValue0
 t3:=Tryz.underlying3
 a3:=Tryz.isAgg3
 z3:=Tryz.sizeOf3
 v3:=Tryz.zeroValue3
 t4:=Tryz.underlying4
 a4:=Tryz.isAgg4
 z4:=Tryz.sizeOf4
 v4:=Tryz.zeroValue4
 t5:=Tryz.underlying5
 a5:=Tryz.isAgg5
 z5:=Tryz.sizeOf5
 v5:=Tryz.zeroValue5
 t9:=Tryz.underlying9
 a9:=Tryz.isAgg9
 z9:=Tryz.sizeOf9
 v9:=Tryz.zeroValue9
 t21:=Tryz.underlying21
 a21:=Tryz.isAgg21
 z21:=Tryz.sizeOf21
 v21:=Tryz.zeroValue21
 t46:=Tryz.underlying181
 a46:=Tryz.isAgg181
 z46:=Tryz.sizeOf181
 v46:=Tryz.zeroValue181
 t105:=Tryz.underlying220
 a105:=Tryz.isAgg220
 z105:=Tryz.sizeOf220
 v105:=Tryz.zeroValue220
 t116:=Tryz.underlying208
 a116:=Tryz.isAgg208
 z116:=Tryz.sizeOf208
 t117:=Tryz.underlying209
 a117:=Tryz.isAgg209
 z117:=Tryz.sizeOf209
 v117:=Tryz.zeroValue209
 t119:=Tryz.underlying246
 a119:=Tryz.isAgg246
 z119:=Tryz.sizeOf246
 t124:=Tryz.underlying212
 a124:=Tryz.isAgg212
 z124:=Tryz.sizeOf212
 v124:=Tryz.zeroValue212
 t138:=Tryz.underlying248
 a138:=Tryz.isAgg248
 z138:=Tryz.sizeOf248
 v138:=Tryz.zeroValue248
 t139:=Tryz.underlying249
 a139:=Tryz.isAgg249
 z139:=Tryz.sizeOf249
 v139:=Tryz.zeroValue249
 g3:=by kernel_rfl
 g4:=by kernel_rfl }
def Tryz.lays133_ren:Go.Shelf.Ren:=⟨fun | 133=>199 | 128=>222 | n=>n,fun | 51=>173 | 3=>3 | 4=>4 | 46=>181 | 5=>5 | 9=>9 | n=>n,fun | n=>n⟩
theorem Tryz.lays133:Go.Proofs.Lays.n133 Tryz.prog Tryz.lays133_ren:={
 mixed:=by kernel_rfl
 f128:=Tryz.func222.trans (congrArg some (by kernel_rfl))
 f133:=Tryz.func199.trans (congrArg some (by kernel_rfl))
 t3:=Tryz.underlying3
 a3:=Tryz.isAgg3
 z3:=Tryz.sizeOf3
 v3:=Tryz.zeroValue3
 t4:=Tryz.underlying4
 a4:=Tryz.isAgg4
 z4:=Tryz.sizeOf4
 v4:=Tryz.zeroValue4
 t5:=Tryz.underlying5
 a5:=Tryz.isAgg5
 z5:=Tryz.sizeOf5
 v5:=Tryz.zeroValue5
 t9:=Tryz.underlying9
 a9:=Tryz.isAgg9
 z9:=Tryz.sizeOf9
 v9:=Tryz.zeroValue9
 t46:=Tryz.underlying181
 a46:=Tryz.isAgg181
 z46:=Tryz.sizeOf181
 v46:=Tryz.zeroValue181
 t51:=Tryz.underlying173
 a51:=Tryz.isAgg173
 z51:=Tryz.sizeOf173
 v51:=Tryz.zeroValue173 }
theorem Tryz.bits_LeadingZeros32 (x:Int) (w:World) (c:0<=x) (b:x<=4294967295) :
 Calls Tryz.prog 199 #[.int .u32 x] w fun e a=>e=.returned (.int .i64 (32-(Lib.bitLen x.toNat:Int)))/\a=w:=Any.bits_LeadingZeros32 Tryz.lays133 x w c b
def Tryz.lays137_ren:Go.Shelf.Ren:=⟨fun | 137=>146 | 217=>174 | 266=>204 | n=>n,fun | 9=>9 | 5=>5 | 3=>3 | n=>n,fun | n=>n⟩
theorem Tryz.lays137:Go.Proofs.Lays.n137 Tryz.prog Tryz.lays137_ren:={
 mixed:=by kernel_rfl
 f137:=Tryz.func146.trans (congrArg some (by kernel_rfl))
 f217:=Tryz.func174.trans (congrArg some (by kernel_rfl))
 f266:=Tryz.func204.trans (congrArg some (by kernel_rfl))
 t3:=Tryz.underlying3
 a3:=Tryz.isAgg3
 z3:=Tryz.sizeOf3
 v3:=Tryz.zeroValue3
 t5:=Tryz.underlying5
 a5:=Tryz.isAgg5
 z5:=Tryz.sizeOf5
 v5:=Tryz.zeroValue5
 t9:=Tryz.underlying9
 a9:=Tryz.isAgg9
 z9:=Tryz.sizeOf9
 v9:=Tryz.zeroValue9 }
open Go.RowKit in
theorem Tryz.strings_IndexByte (s:ByteArray) (c:Int) (w:World) :
 Calls Tryz.prog 146 #[.string s,.int .u8 c] w fun e a=>e=.returned (.int .i64 (Lib.indexByte s.data.toList c.toNat.toUInt8))/\a=w:=Any.strings_IndexByte Tryz.lays137 s c w
def Tryz.lays103_ren:Go.Shelf.Ren:=⟨fun | 103=>110 | 210=>150 | 206=>175 | n=>n,fun | 9=>9 | 4=>4 | 24=>152 | 3=>3 | n=>n,fun | n=>n⟩
theorem Tryz.lays103:Go.Proofs.Lays.n103 Tryz.prog Tryz.lays103_ren:={
 mixed:=by kernel_rfl
 f103:=Tryz.func110.trans (congrArg some (by kernel_rfl))
 f206:=Tryz.func175.trans (congrArg some (by kernel_rfl))
 f210:=Tryz.func150.trans (congrArg some (by kernel_rfl))
 t3:=Tryz.underlying3
 a3:=Tryz.isAgg3
 z3:=Tryz.sizeOf3
 v3:=Tryz.zeroValue3
 t4:=Tryz.underlying4
 a4:=Tryz.isAgg4
 z4:=Tryz.sizeOf4
 v4:=Tryz.zeroValue4
 t9:=Tryz.underlying9
 a9:=Tryz.isAgg9
 z9:=Tryz.sizeOf9
 v9:=Tryz.zeroValue9
 t24:=Tryz.underlying152
 a24:=Tryz.isAgg152
 z24:=Tryz.sizeOf152
 v24:=Tryz.zeroValue152 }
open Go.RowKit in
theorem Tryz.strings_CutPrefix (s p:ByteArray) (w:World) :
 Calls Tryz.prog 110 #[.string s,.string p] w fun e a=>e=.returned (.tuple #[.string ⟨(Lib.trimPrefix s.data.toList p.data.toList).toArray⟩,.bool (Lib.hasPrefix s.data.toList p.data.toList)])/\a=w:=Any.strings_CutPrefix Tryz.lays103 s p w
def Tryz.lays172_ren:Go.Shelf.Ren:=⟨fun | 172=>155 | 244=>187 | 245=>188 | 247=>212 | 279=>213 | 280=>214 | 281=>215 | 282=>216 | 287=>227 | 316=>228 | 171=>124 | 205=>229 | 321=>236 | 322=>237 | 243=>158 | 246=>189 | 283=>217 | 284=>218 | 285=>219 | 286=>220 | 129=>231 | 317=>230 | 318=>232 | 319=>233 | 320=>234 | 337=>238 | 338=>239 | n=>n,fun | 9=>9 | 3=>3 | 75=>34 | 76=>105 | 4=>4 | 5=>5 | 167=>223 | 37=>102 | 0=>0 | 85=>224 | 2=>2 | 168=>226 | 53=>179 | 175=>236 | 46=>181 | 210=>239 | 127=>150 | 145=>254 | 143=>252 | 21=>21 | 171=>229 | 173=>232 | 212=>242 | 51=>173 | 20=>20 | 213=>243 | 232=>255 | 233=>256 | 80=>112 | n=>n,fun | 15=>1 | 16=>2 | 17=>3 | 18=>6 | 19=>7 | n=>n⟩
theorem Tryz.lays172:Go.Proofs.Lays.n172 Tryz.prog Tryz.lays172_ren:={
 mixed:=by kernel_rfl
 f129:=Tryz.func231.trans (congrArg some (by kernel_rfl))
 f171:=Tryz.func124.trans (congrArg some (by kernel_rfl))
 f172:=Tryz.func155.trans (congrArg some (by kernel_rfl))
 f205:=Tryz.func229.trans (congrArg some (by kernel_rfl))
 f243:=Tryz.func158.trans (congrArg some (by kernel_rfl))
 f244:=Tryz.func187.trans (congrArg some (by kernel_rfl))
 f245:=Tryz.func188.trans (congrArg some (by kernel_rfl))
 f246:=Tryz.func189.trans (congrArg some (by kernel_rfl))
 f247:=Tryz.func212.trans (congrArg some (by kernel_rfl))
 f279:=Tryz.func213.trans (congrArg some (by kernel_rfl))
 f280:=Tryz.func214.trans (congrArg some (by kernel_rfl))
 f281:=Tryz.func215.trans (congrArg some (by kernel_rfl))
 f282:=Tryz.func216.trans (congrArg some (by kernel_rfl))
 f283:=Tryz.func217.trans (congrArg some (by kernel_rfl))
 f284:=Tryz.func218.trans (congrArg some (by kernel_rfl))
 f285:=Tryz.func219.trans (congrArg some (by kernel_rfl))
 f286:=Tryz.func220.trans (congrArg some (by kernel_rfl))
 f287:=Tryz.func227.trans (congrArg some (by kernel_rfl))
 f316:=Tryz.func228.trans (congrArg some (by kernel_rfl))
 f317:=Tryz.func230.trans (congrArg some (by kernel_rfl))
 f318:=Tryz.func232.trans (congrArg some (by kernel_rfl))
 f319:=Tryz.func233.trans (congrArg some (by kernel_rfl))
 f320:=Tryz.func234.trans (congrArg some (by kernel_rfl))
 f321:=Tryz.func236.trans (congrArg some (by kernel_rfl))
 f322:=Tryz.func237.trans (congrArg some (by kernel_rfl))
 f337:=Tryz.func238.trans (congrArg some (by kernel_rfl))
 f338:=Tryz.func239.trans (congrArg some (by kernel_rfl))
 t0:=Tryz.underlying0
 a0:=Tryz.isAgg0
 z0:=Tryz.sizeOf0
 v0:=Tryz.zeroValue0
 t2:=Tryz.underlying2
 a2:=Tryz.isAgg2
 z2:=Tryz.sizeOf2
 v2:=Tryz.zeroValue2
 t3:=Tryz.underlying3
 a3:=Tryz.isAgg3
 z3:=Tryz.sizeOf3
 v3:=Tryz.zeroValue3
 t4:=Tryz.underlying4
 a4:=Tryz.isAgg4
 z4:=Tryz.sizeOf4
 v4:=Tryz.zeroValue4
 t5:=Tryz.underlying5
 a5:=Tryz.isAgg5
 z5:=Tryz.sizeOf5
 v5:=Tryz.zeroValue5
 t9:=Tryz.underlying9
 a9:=Tryz.isAgg9
 z9:=Tryz.sizeOf9
 v9:=Tryz.zeroValue9
 t20:=Tryz.underlying20
 a20:=Tryz.isAgg20
 z20:=Tryz.sizeOf20
 v20:=Tryz.zeroValue20
 t21:=Tryz.underlying21
 a21:=Tryz.isAgg21
 z21:=Tryz.sizeOf21
 v21:=Tryz.zeroValue21
 t37:=Tryz.underlying102
 a37:=Tryz.isAgg102
 z37:=Tryz.sizeOf102
 v37:=Tryz.zeroValue102
 t46:=Tryz.underlying181
 a46:=Tryz.isAgg181
 z46:=Tryz.sizeOf181
 v46:=Tryz.zeroValue181
 t51:=Tryz.underlying173
 a51:=Tryz.isAgg173
 z51:=Tryz.sizeOf173
 v51:=Tryz.zeroValue173
 t53:=Tryz.underlying179
 a53:=Tryz.isAgg179
 z53:=Tryz.sizeOf179
 v53:=Tryz.zeroValue179
 t75:=Tryz.underlying34
 a75:=Tryz.isAgg34
 z75:=Tryz.sizeOf34
 v75:=Tryz.zeroValue34
 t76:=Tryz.underlying105
 a76:=Tryz.isAgg105
 z76:=Tryz.sizeOf105
 v76:=Tryz.zeroValue105
 t85:=Tryz.underlying224
 a85:=Tryz.isAgg224
 z85:=Tryz.sizeOf224
 v85:=Tryz.zeroValue224
 t127:=Tryz.underlying150
 a127:=Tryz.isAgg150
 z127:=Tryz.sizeOf150
 v127:=Tryz.zeroValue150
 t143:=Tryz.underlying252
 a143:=Tryz.isAgg252
 z143:=Tryz.sizeOf252
 v143:=Tryz.zeroValue252
 t145:=Tryz.underlying254
 a145:=Tryz.isAgg254
 z145:=Tryz.sizeOf254
 v145:=Tryz.zeroValue254
 t167:=Tryz.underlying223
 a167:=Tryz.isAgg223
 z167:=Tryz.sizeOf223
 v167:=Tryz.zeroValue223
 t168:=Tryz.underlying226
 a168:=Tryz.isAgg226
 z168:=Tryz.sizeOf226
 v168:=Tryz.zeroValue226
 t171:=Tryz.underlying229
 a171:=Tryz.isAgg229
 z171:=Tryz.sizeOf229
 v171:=Tryz.zeroValue229
 t173:=Tryz.underlying232
 a173:=Tryz.isAgg232
 z173:=Tryz.sizeOf232
 v173:=Tryz.zeroValue232
 t175:=Tryz.underlying236
 a175:=Tryz.isAgg236
 z175:=Tryz.sizeOf236
 v175:=Tryz.zeroValue236
 t210:=Tryz.underlying239
 a210:=Tryz.isAgg239
 z210:=Tryz.sizeOf239
 v210:=Tryz.zeroValue239
 t212:=Tryz.underlying242
 a212:=Tryz.isAgg242
 z212:=Tryz.sizeOf242
 v212:=Tryz.zeroValue242
 t213:=Tryz.underlying243
 a213:=Tryz.isAgg243
 z213:=Tryz.sizeOf243
 t232:=Tryz.underlying255
 a232:=Tryz.isAgg255
 z232:=Tryz.sizeOf255
 v232:=Tryz.zeroValue255
 t233:=Tryz.underlying256
 a233:=Tryz.isAgg256
 z233:=Tryz.sizeOf256
 v233:=Tryz.zeroValue256
 g15:=by kernel_rfl
 g16:=by kernel_rfl
 g17:=by kernel_rfl
 g18:=by kernel_rfl
 g19:=by kernel_rfl }
open Go.RowKit in
theorem Tryz.strconv_Atoi (s:ByteArray) (n:Int) (b:s.size<=18) (h:Lib.atoi s.data.toList=some n) (w:World) :
 Calls Tryz.prog 155 #[.string s] w fun e a=>e=.returned (.tuple #[.int .i64 n,.nilIface])/\∃ t,a=Lib.bytesWorld w 5 t:=Any.strconv_Atoi Tryz.lays172 s n b h w
def Tryz.laysM171_ren:Go.Shelf.Ren:=⟨fun | 171=>124 | 243=>158 | 246=>189 | 283=>217 | 284=>218 | 285=>219 | 286=>220 | 129=>231 | 317=>230 | 318=>232 | 319=>233 | 320=>234 | 337=>238 | 338=>239 | n=>n,fun | 3=>3 | 9=>9 | 2=>2 | 4=>4 | 171=>229 | 0=>0 | 53=>179 | 37=>102 | 5=>5 | 173=>232 | 212=>242 | 51=>173 | 20=>20 | 213=>243 | 46=>181 | 232=>255 | 233=>256 | n=>n,fun | 17=>3 | 18=>6 | 19=>7 | n=>n⟩
theorem Tryz.laysM171:Go.Proofs.LaysM.n171 Tryz.prog Tryz.laysM171_ren:={
 mixed:=by kernel_rfl
 f129:=Tryz.func231.trans (congrArg some (by kernel_rfl))
 f171:=Tryz.func124.trans (congrArg some (by kernel_rfl))
 f243:=Tryz.func158.trans (congrArg some (by kernel_rfl))
 f246:=Tryz.func189.trans (congrArg some (by kernel_rfl))
 f283:=Tryz.func217.trans (congrArg some (by kernel_rfl))
 f284:=Tryz.func218.trans (congrArg some (by kernel_rfl))
 f285:=Tryz.func219.trans (congrArg some (by kernel_rfl))
 f286:=Tryz.func220.trans (congrArg some (by kernel_rfl))
 f317:=Tryz.func230.trans (congrArg some (by kernel_rfl))
 f318:=Tryz.func232.trans (congrArg some (by kernel_rfl))
 f319:=Tryz.func233.trans (congrArg some (by kernel_rfl))
 f320:=Tryz.func234.trans (congrArg some (by kernel_rfl))
 f337:=Tryz.func238.trans (congrArg some (by kernel_rfl))
 f338:=Tryz.func239.trans (congrArg some (by kernel_rfl))
 t0:=Tryz.underlying0
 a0:=Tryz.isAgg0
 z0:=Tryz.sizeOf0
 v0:=Tryz.zeroValue0
 t2:=Tryz.underlying2
 a2:=Tryz.isAgg2
 z2:=Tryz.sizeOf2
 v2:=Tryz.zeroValue2
 t3:=Tryz.underlying3
 a3:=Tryz.isAgg3
 z3:=Tryz.sizeOf3
 v3:=Tryz.zeroValue3
 t4:=Tryz.underlying4
 a4:=Tryz.isAgg4
 z4:=Tryz.sizeOf4
 v4:=Tryz.zeroValue4
 t5:=Tryz.underlying5
 a5:=Tryz.isAgg5
 z5:=Tryz.sizeOf5
 v5:=Tryz.zeroValue5
 t9:=Tryz.underlying9
 a9:=Tryz.isAgg9
 z9:=Tryz.sizeOf9
 v9:=Tryz.zeroValue9
 t20:=Tryz.underlying20
 a20:=Tryz.isAgg20
 z20:=Tryz.sizeOf20
 v20:=Tryz.zeroValue20
 t37:=Tryz.underlying102
 a37:=Tryz.isAgg102
 z37:=Tryz.sizeOf102
 v37:=Tryz.zeroValue102
 t46:=Tryz.underlying181
 a46:=Tryz.isAgg181
 z46:=Tryz.sizeOf181
 v46:=Tryz.zeroValue181
 t51:=Tryz.underlying173
 a51:=Tryz.isAgg173
 z51:=Tryz.sizeOf173
 v51:=Tryz.zeroValue173
 t53:=Tryz.underlying179
 a53:=Tryz.isAgg179
 z53:=Tryz.sizeOf179
 v53:=Tryz.zeroValue179
 t171:=Tryz.underlying229
 a171:=Tryz.isAgg229
 z171:=Tryz.sizeOf229
 v171:=Tryz.zeroValue229
 t173:=Tryz.underlying232
 a173:=Tryz.isAgg232
 z173:=Tryz.sizeOf232
 v173:=Tryz.zeroValue232
 t212:=Tryz.underlying242
 a212:=Tryz.isAgg242
 z212:=Tryz.sizeOf242
 v212:=Tryz.zeroValue242
 t213:=Tryz.underlying243
 a213:=Tryz.isAgg243
 z213:=Tryz.sizeOf243
 t232:=Tryz.underlying255
 a232:=Tryz.isAgg255
 z232:=Tryz.sizeOf255
 v232:=Tryz.zeroValue255
 t233:=Tryz.underlying256
 a233:=Tryz.isAgg256
 z233:=Tryz.sizeOf256
 v233:=Tryz.zeroValue256
 g17:=by kernel_rfl
 g18:=by kernel_rfl
 g19:=by kernel_rfl
 i0:=by kernel_rfl
 i2:=by kernel_rfl
 i3:=by kernel_rfl
 i4:=by kernel_rfl
 i5:=by kernel_rfl
 i9:=by kernel_rfl
 i20:=by kernel_rfl
 i37:=by kernel_rfl
 i46:=by kernel_rfl
 i51:=by kernel_rfl
 i53:=by kernel_rfl
 i171:=by kernel_rfl
 i173:=by kernel_rfl
 i212:=by kernel_rfl
 i232:=by kernel_rfl
 i233:=by kernel_rfl
 m17:=by kernel_rfl
 m18:=by kernel_rfl
 m19:=by kernel_rfl }
open Go.RowKit Go.Sort Go.Lib in
theorem Tryz.strconv_Itoa (n : Int) (d : -9223372036854775808 <= n) (c : n <= 9223372036854775807) (w : World) (a : Lib.TabIs Tryz.prog w "internal/strconv.uint64pow10" .u64 Lib.pow10Tab) :
 Calls Tryz.prog 124 #[.int .i64 n] w fun e b=>e=.returned (.string ⟨(Lib.itoa n).toArray⟩)/\∃ k os,b=grow (w.drewN k) os:=Any.strconv_Itoa Tryz.laysM171 n d c w a
def Tryz.lays145_ren:Go.Shelf.Ren:=⟨fun | 145=>111 | 220=>151 | 219=>176 | 217=>174 | 225=>205 | 224=>206 | 267=>207 | 266=>204 | 314=>223 | n=>n,fun | 9=>9 | 4=>4 | 59=>160 | 3=>3 | 5=>5 | 46=>181 | 146=>202 | 51=>173 | n=>n,fun | 1=>0 | n=>n⟩
theorem Tryz.lays145:Go.Proofs.Lays.n145 Tryz.prog Tryz.lays145_ren:={
 mixed:=by kernel_rfl
 f145:=Tryz.func111.trans (congrArg some (by kernel_rfl))
 f217:=Tryz.func174.trans (congrArg some (by kernel_rfl))
 f219:=Tryz.func176.trans (congrArg some (by kernel_rfl))
 f220:=Tryz.func151.trans (congrArg some (by kernel_rfl))
 f224:=Tryz.func206.trans (congrArg some (by kernel_rfl))
 f225:=Tryz.func205.trans (congrArg some (by kernel_rfl))
 f266:=Tryz.func204.trans (congrArg some (by kernel_rfl))
 f267:=Tryz.func207.trans (congrArg some (by kernel_rfl))
 f314:=Tryz.func223.trans (congrArg some (by kernel_rfl))
 t3:=Tryz.underlying3
 a3:=Tryz.isAgg3
 z3:=Tryz.sizeOf3
 v3:=Tryz.zeroValue3
 t4:=Tryz.underlying4
 a4:=Tryz.isAgg4
 z4:=Tryz.sizeOf4
 v4:=Tryz.zeroValue4
 t5:=Tryz.underlying5
 a5:=Tryz.isAgg5
 z5:=Tryz.sizeOf5
 v5:=Tryz.zeroValue5
 t9:=Tryz.underlying9
 a9:=Tryz.isAgg9
 z9:=Tryz.sizeOf9
 v9:=Tryz.zeroValue9
 t46:=Tryz.underlying181
 a46:=Tryz.isAgg181
 z46:=Tryz.sizeOf181
 v46:=Tryz.zeroValue181
 t51:=Tryz.underlying173
 a51:=Tryz.isAgg173
 z51:=Tryz.sizeOf173
 v51:=Tryz.zeroValue173
 t59:=Tryz.underlying160
 a59:=Tryz.isAgg160
 z59:=Tryz.sizeOf160
 v59:=Tryz.zeroValue160
 t146:=Tryz.underlying202
 a146:=Tryz.isAgg202
 z146:=Tryz.sizeOf202
 v146:=Tryz.zeroValue202
 g1:=by kernel_rfl }
open Go.RowKit Go.Lib in
theorem Tryz.strings_Cut (s a:ByteArray) (m:Int) (w:World) (d:s.size<4294967281) (b:w.cell? ⟨0,0,none⟩=some (.int .i64 m)) :
 Calls Tryz.prog 111 #[.string s,.string a] w fun e c=>e=.returned (.tuple #[.string ⟨(Lib.cut s.data.toList a.data.toList).1.toArray⟩,.string ⟨(Lib.cut s.data.toList a.data.toList).2.1.toArray⟩,.bool (Lib.cut s.data.toList a.data.toList).2.2])/\∃ n,c=w.drewN n:=Any.strings_Cut Tryz.lays145 s a m w d b
def Tryz.lays99_ren:Go.Shelf.Ren:=⟨fun | 99=>148 | 206=>175 | n=>n,fun | 9=>9 | 4=>4 | 3=>3 | n=>n,fun | n=>n⟩
theorem Tryz.lays99:Go.Proofs.Lays.n99 Tryz.prog Tryz.lays99_ren:={
 mixed:=by kernel_rfl
 f99:=Tryz.func148.trans (congrArg some (by kernel_rfl))
 f206:=Tryz.func175.trans (congrArg some (by kernel_rfl))
 t3:=Tryz.underlying3
 a3:=Tryz.isAgg3
 z3:=Tryz.sizeOf3
 v3:=Tryz.zeroValue3
 t4:=Tryz.underlying4
 a4:=Tryz.isAgg4
 z4:=Tryz.sizeOf4
 v4:=Tryz.zeroValue4
 t9:=Tryz.underlying9
 a9:=Tryz.isAgg9
 z9:=Tryz.sizeOf9
 v9:=Tryz.zeroValue9 }
open Go.RowKit Go.Lib in
theorem Tryz.strings_HasPrefix (s p:ByteArray) (w:World) :
 Calls Tryz.prog 148 #[.string s,.string p] w fun e a=>e=.returned (.bool (Lib.hasPrefix s.data.toList p.data.toList))/\a=w:=Any.strings_HasPrefix Tryz.lays99 s p w
def Tryz.lays101_ren:Go.Shelf.Ren:=⟨fun | 101=>153 | 208=>179 | 206=>175 | n=>n,fun | 9=>9 | 4=>4 | 3=>3 | n=>n,fun | n=>n⟩
theorem Tryz.lays101:Go.Proofs.Lays.n101 Tryz.prog Tryz.lays101_ren:={
 mixed:=by kernel_rfl
 f101:=Tryz.func153.trans (congrArg some (by kernel_rfl))
 f206:=Tryz.func175.trans (congrArg some (by kernel_rfl))
 f208:=Tryz.func179.trans (congrArg some (by kernel_rfl))
 t3:=Tryz.underlying3
 a3:=Tryz.isAgg3
 z3:=Tryz.sizeOf3
 v3:=Tryz.zeroValue3
 t4:=Tryz.underlying4
 a4:=Tryz.isAgg4
 z4:=Tryz.sizeOf4
 v4:=Tryz.zeroValue4
 t9:=Tryz.underlying9
 a9:=Tryz.isAgg9
 z9:=Tryz.sizeOf9
 v9:=Tryz.zeroValue9 }
open Go.RowKit Go.Lib in
theorem Tryz.strings_TrimPrefix (s p:ByteArray) (w:World) :
 Calls Tryz.prog 153 #[.string s,.string p] w fun e a=>e=.returned (.string ⟨(Lib.trimPrefix s.data.toList p.data.toList).toArray⟩)/\a=w:=Any.strings_TrimPrefix Tryz.lays101 s p w
def Tryz.lays105_ren:Go.Shelf.Ren:=⟨fun | 105=>112 | 212=>152 | 99=>148 | 165=>102 | 166=>61 | 170=>65 | 169=>67 | 263=>177 | 264=>178 | 206=>175 | 240=>101 | 241=>145 | 276=>144 | 277=>173 | n=>n,fun | 9=>9 | 3=>3 | 4=>4 | 20=>20 | 0=>0 | 46=>181 | 109=>192 | 5=>5 | 72=>104 | 76=>105 | 51=>173 | 146=>202 | 53=>179 | 148=>204 | 70=>101 | 37=>102 | 75=>34 | 127=>150 | 164=>187 | 80=>112 | n=>n,fun | n=>n⟩
theorem Tryz.lays105:Go.Proofs.Lays.n105 Tryz.prog Tryz.lays105_ren:={
 mixed:=by kernel_rfl
 f99:=Tryz.func148.trans (congrArg some (by kernel_rfl))
 f105:=Tryz.func112.trans (congrArg some (by kernel_rfl))
 f165:=Tryz.func102.trans (congrArg some (by kernel_rfl))
 f166:=Tryz.func61.trans (congrArg some (by kernel_rfl))
 f169:=Tryz.func67.trans (congrArg some (by kernel_rfl))
 f170:=Tryz.func65.trans (congrArg some (by kernel_rfl))
 f206:=Tryz.func175.trans (congrArg some (by kernel_rfl))
 f212:=Tryz.func152.trans (congrArg some (by kernel_rfl))
 f240:=Tryz.func101.trans (congrArg some (by kernel_rfl))
 f241:=Tryz.func145.trans (congrArg some (by kernel_rfl))
 f263:=Tryz.func177.trans (congrArg some (by kernel_rfl))
 f264:=Tryz.func178.trans (congrArg some (by kernel_rfl))
 f276:=Tryz.func144.trans (congrArg some (by kernel_rfl))
 f277:=Tryz.func173.trans (congrArg some (by kernel_rfl))
 t0:=Tryz.underlying0
 a0:=Tryz.isAgg0
 z0:=Tryz.sizeOf0
 v0:=Tryz.zeroValue0
 t3:=Tryz.underlying3
 a3:=Tryz.isAgg3
 z3:=Tryz.sizeOf3
 v3:=Tryz.zeroValue3
 t4:=Tryz.underlying4
 a4:=Tryz.isAgg4
 z4:=Tryz.sizeOf4
 v4:=Tryz.zeroValue4
 t5:=Tryz.underlying5
 a5:=Tryz.isAgg5
 z5:=Tryz.sizeOf5
 v5:=Tryz.zeroValue5
 t9:=Tryz.underlying9
 a9:=Tryz.isAgg9
 z9:=Tryz.sizeOf9
 v9:=Tryz.zeroValue9
 t20:=Tryz.underlying20
 a20:=Tryz.isAgg20
 z20:=Tryz.sizeOf20
 v20:=Tryz.zeroValue20
 t37:=Tryz.underlying102
 a37:=Tryz.isAgg102
 z37:=Tryz.sizeOf102
 v37:=Tryz.zeroValue102
 t46:=Tryz.underlying181
 a46:=Tryz.isAgg181
 z46:=Tryz.sizeOf181
 v46:=Tryz.zeroValue181
 t51:=Tryz.underlying173
 a51:=Tryz.isAgg173
 z51:=Tryz.sizeOf173
 v51:=Tryz.zeroValue173
 t53:=Tryz.underlying179
 a53:=Tryz.isAgg179
 z53:=Tryz.sizeOf179
 v53:=Tryz.zeroValue179
 t70:=Tryz.underlying101
 a70:=Tryz.isAgg101
 z70:=Tryz.sizeOf101
 v70:=Tryz.zeroValue101
 t72:=Tryz.underlying104
 a72:=Tryz.isAgg104
 z72:=Tryz.sizeOf104
 v72:=Tryz.zeroValue104
 t75:=Tryz.underlying34
 a75:=Tryz.isAgg34
 z75:=Tryz.sizeOf34
 v75:=Tryz.zeroValue34
 t76:=Tryz.underlying105
 a76:=Tryz.isAgg105
 z76:=Tryz.sizeOf105
 v76:=Tryz.zeroValue105
 t109:=Tryz.underlying192
 a109:=Tryz.isAgg192
 z109:=Tryz.sizeOf192
 v109:=Tryz.zeroValue192
 t127:=Tryz.underlying150
 a127:=Tryz.isAgg150
 z127:=Tryz.sizeOf150
 v127:=Tryz.zeroValue150
 t146:=Tryz.underlying202
 a146:=Tryz.isAgg202
 z146:=Tryz.sizeOf202
 v146:=Tryz.zeroValue202
 t148:=Tryz.underlying204
 a148:=Tryz.isAgg204
 z148:=Tryz.sizeOf204
 v148:=Tryz.zeroValue204
 t164:=Tryz.underlying187
 a164:=Tryz.isAgg187
 z164:=Tryz.sizeOf187
 v164:=Tryz.zeroValue187 }
theorem Tryz.Builder_Extra_105:Builder.Extra Tryz.prog Tryz.lays105_ren:={
 sizeBuilder:=by kernel_rfl
 liesBuilder:=by kernel_rfl
 t5:=Tryz.underlying5
 a5:=Tryz.isAgg5
 z5:=Tryz.sizeOf5
 v5:=Tryz.zeroValue5
 infoByte:=by kernel_rfl
 cellsByte:=by kernel_rfl
 sizeByte:=by kernel_rfl
 neB5:=by decide }
open Go.RowKit Go.Lib in
theorem Tryz.strings_Repeat (s:ByteArray) (c:Nat) (w:World) (d:c<=9223372036854775807) (a:s.size*c<=140737488355328) :
 Calls Tryz.prog 112 #[.string s,.int .i64 c] w fun e b=>e=.returned (.string ⟨(Lib.repeatL s.data.toList c).toArray⟩)/\Below w.heap.size w b:=Any.strings_Repeat Tryz.lays105 Tryz.Builder_Extra_105 s c w d a
end Go.Proofs

/- Walks: the long division, first part: where no division is made, and by one word. -/
namespace Go.Proofs.YtndhgcfajlalhaaGreatDoor
open Go Go.RowKit Bn
attribute [local go_sem ↓] Go.wp_at_zero Go.wp_at_succ

theorem qQ (w:World) (z:Int) (x:Nat) (b:z=x) (c:x<4294967296):Wd (w.alloc (.cells #[.int .u32 z] 173)) (some ⟨w.heap.size,0,none⟩) 1 1 [x]:=by
 subst b;exact (Blk.new w 173 (cellsOf [x])).wdN (by intro y a;simp at a;omega) rfl
def sV (w:World) (a b:Nat) (e:Ending) (w':World):Prop:=∃ A1 n1 c1 A2 n2 c2,e=.returned (.tuple #[.slice A1 n1 c1,.slice A2 n2 c2])/\Wd w' A1 n1 c1 (ap (a/b))/\Wd w' A2 n2 c2 (ap (a%b))/\Below w.heap.size w w'
theorem vv (w:World) (A n c l) (i:Wd w A n c l) (o:n<=1099511627776) (A' n' c' l') (p:Wd w A' n' c' l') (d:n'<=1099511627776) (r:aZ l) (g:aZ l') (a:val l<val l') :
 Calls Tryz.prog 171 #[.slice A n c,.slice A' n' c'] w (sV w (val l) (val l')):=by
 have h:=eF w A n c l i o A' n' c' l' p d r g;rw [show bH (val l) (val l')=-1 by unfold bH;rw [if_pos a]] at h;have k:=Qh h;have j:=Qh (And.intro (Nat.div_eq_of_lt a) (Nat.mod_eq_of_lt a));clear h a;go_in
 go_wp2_with (first
  | (go_at_call 119;refine (k.out).mono ?_;rintro e t ⟨rfl,b⟩)
  | (go_at_call 156;(refine (fA _ A n c l ?_ (by omega)).mono ?_);exact i.keep ((Kp.refl _).below b);rintro e u ⟨q,s,c2,rfl,m,f⟩))
 go_ret2;refine ⟨none,0,0,q,s,c2,rfl,?_,?_,b.trans (f.mono b.size)⟩
 ·rw [j.out.1,az];exact Wd.nil_ _
 rw [j.out.2];exact m
theorem sW (w:World) (A n c l) (v:Wd w A n c l) (z:n<=1099511627776) (A' n' c' l') (r:Wd w A' n' c' l') (J:aZ l) (f:aZ l') (q:val l'<=val l) (k:n'=1) :
 Calls Tryz.prog 171 #[.slice A n c,.slice A' n' c'] w (sV w (val l) (val l')):=by
 subst k;have d:=r.2.1
 obtain ⟨y,rfl⟩:∃ y,l'=[y]:=by
  match l',d with
  | [y],_=>exact ⟨y,rfl⟩
 have i:y<4294967296:=f.1 y (by simp);have m:0<y:=by have:=f.2;simp at this;omega
 have C:val [y]=y:=by simp [val]
 have s:=eF w A n c l v z A' 1 c' [y] r (by omega) J f;obtain ⟨c0,h,u⟩:∃ c0,bH (val l) (val [y])=c0/\0<=c0:=⟨_,rfl,by unfold bH;rw [if_neg (by omega)];split <;> omega⟩;rw [h] at s;have F:=Qh s;have I:=Qh C;obtain ⟨E,G,rfl,t,b⟩:=r.at2 (by omega);have j:=b 0 (by omega);simp only [wd,List.getD_cons_zero,Nat.add_zero] at j;clear s h b C d q;go_in
 go_wp2_with (first
  | (go_at_call 119;refine (F.out).mono ?_;rintro e K ⟨rfl,a⟩;have B:=(a.cell (p:=⟨E,G,none⟩) t).trans j)
  | (go_at_call 123;(refine (tZ _ A n c l ?_ z y m i).mono ?_);exact v.keep ((Kp.refl _).below a);rintro e Q ⟨P,N,c2,rfl,D,g⟩)
  | (go_at_call 156;(refine (fA _ _ 1 1 [val l%y] ?_ (by omega)).mono ?_);exact qQ _ _ _ (by simp) (Nat.lt_trans (Nat.mod_lt _ m) i);rintro e L ⟨O,M,c3,rfl,x,o⟩))
 go_ret2;rw [I.out];have H:val [val l%y]=val l%y:=by simp [val]
 rw [H] at x;exact ⟨_,_,_,_,_,_,rfl,D.keep (((Kp.refl _).alloc _).below o),x,((a.trans (g.mono a.size)).alloc (Nat.le_trans a.size g.size) _).trans (o.mono (Nat.le_trans (Nat.le_trans a.size g.size) (by simp)))⟩

theorem nO (x:Nat) (c:x≠0) (a:x<2^64):∃ k,Lib.bitLen x=k+1/\2^k<=x/\x<2^(k+1):=by
 induction x using Nat.strongRecOn with
 | ind x ih =>
  have hb:=Lib.bitLen_half x c a;by_cases h2:x/2=0
  ·refine ⟨0,?_,by omega,by omega⟩
   rw [hb,h2];rfl
  obtain ⟨k,b,f,d⟩:=ih (x/2) (by omega) h2 (by omega);refine ⟨k+1,by rw [hb,b];omega,?_,?_⟩
  ·rw [Nat.pow_succ];omega
  rw [Nat.pow_succ];omega
theorem ya {x:Nat}(f:x≠0) (j:x<4294967296):∃ m:Nat,m<32/\(32-(Lib.bitLen x:Int))=(m:Int)/\2147483648<=x*2^m/\(x+1)*2^m<=4294967296:=by
 obtain ⟨k,c,b,a⟩:=nO x f (by omega)
 have i:k<32:=by
  rcases Nat.lt_or_ge k 32 with h | h
  ·exact h
  have:2^32<=2^k:=Nat.pow_le_pow_right (by omega) h;omega
 obtain ⟨d,g⟩:=sU (x:=x) (k:=k) (m:=31-k) (by omega) b a;exact ⟨31-k,by omega,by rw [c];omega,d,g⟩

def kO (hd top q:Nat) (gx rx:Value):Prop:=∃ g r:Nat,gx=.int .u64 (g:Nat)/\rx=.int .u64 (r:Nat)/\g<=4294967298/\r<8589934592/\AL (g*top+r=hd/\q<=g)
theorem kO.mk {hd top q:Nat}(g r:Nat) {x y:Int}(d:x=(g:Int)) (b:y=(r:Int)) (h:g<=4294967298) (c:r<8589934592) (f:g*top+r=hd) (a:q<=g):kO hd top q (.int .u64 x) (.int .u64 y) :=
 ⟨g,r,by rw [d],by rw [b],h,c,f,a⟩
def CX (V U0 k:Nat) (Lu Lq:List Nat):Prop:=Wds Lu/\Wds Lq/\(∀ j,j<k->wd Lq j=0)/\val Lu<V*4294967296^k/\val Lu+V*val Lq=U0
theorem pt {Q:List Nat}{i x:Nat}(b:wd Q i=0) (a:i<Q.length):val (Q.set i x)=val Q+x*4294967296^i:=by
 have h:=dx Q i x Q.length a a;rw [b,Nat.zero_mul,Nat.add_zero,bm _ (by rw [List.length_set];exact Qr),bm _ Qr] at h;exact h
theorem jH {V l k d P q:Nat}{L h Q:List Nat}(c:CX V l k L Q) (u:0<k) (n:k<=Q.length) (hw:Win L h (k-1) (d+1)) (r:val L<4294967296^(k-1+(d+1))) (s:val L=Sm (wd L) (k-1)+4294967296^(k-1)*P)
 (g:Sm (wn h (k-1)) (d+1)=P%V) (o:P/V=q) (f:q<4294967296) (t:0<V):CX V l (k-1) h (Q.set (k-1) q):=by
 have a:=qL r hw;rw [g] at a;have b:Sm (wd L) (k-1)<4294967296^(k-1):=fj fun i _=>bN c.1 _
 obtain ⟨p,m⟩:=CW c.2.2.2.2 s a o.symm b t;refine ⟨hw.2.1,wds_set c.2.1 _ f,fun j v=>?_,m,?_⟩
 ·rw [bS,if_neg (by omega)];exact c.2.2.1 j (by omega)
 rw [pt (c.2.2.1 _ (by omega)) (by omega)];exact p
theorem nP (N:Nat):val (List.replicate N 0)=0:=by
 induction N with
 | zero=>rfl
 | succ N ih=>rw [List.replicate_succ,val,ih]
theorem pu (N j:Nat):wd (List.replicate N 0) j=0:=by
 unfold wd;by_cases hj:j<N <;> simp [List.getD,hj]
theorem nQ (N:Nat):Wds (List.replicate N 0):=by intro x a;rw [List.eq_of_mem_replicate a];omega
theorem vw {l a:List Nat}{n b N m:Nat}(hw:Wds l) (i:n=l.length) (d:aZ a) (c:b=a.length) (j:2<=b) (hN:N=n+1-b) (k:b<=n):val l*2^m<val a*2^m*4294967296^N:=by
 have g:=cF hw;have f:=sK d (by rintro rfl;simp at c;omega);rw [<- i] at g;rw [<- c] at f;have q:4294967296^(b-1)*4294967296^N<=val a*4294967296^N:=Nat.mul_le_mul_right _ f;have o:4294967296^(b-1)*4294967296^N=4294967296^n:=by rw [<- Nat.pow_add];congr 1;omega
 have h:val l<val a*4294967296^N:=by omega
 have r:=Nat.mul_lt_mul_of_pos_right h (show 0<2^m from Nat.pow_pos (by omega));have p:val a*4294967296^N*2^m=val a*2^m*4294967296^N:=by rw [Nat.mul_assoc,Nat.mul_comm (4294967296^N),<- Nat.mul_assoc]
 omega

theorem sX (w:World) (A n c l) (wa:Wd w A n c l) (hn:n<=1099511627000) (A' d c' l') (wb:Wd w A' d c' l') (e9:2<=d) (hc:aZ l) (b9:aZ l') (e8:val l'<=val l) :
    Calls Tryz.prog 171 #[.slice A n c,.slice A' d c'] w (sV w (val l) (val l')):=by
  have HL:=Qh wa.2.1;have bu:=Qh wb.2.1
  have fa:d<=n:=by
    rcases Nat.lt_or_ge n (d) with h | h
    · have:=dC hc.1 b9 (by rw [<- HL.out,<- bu.out];exact h)
      omega
    exact h
  have h1:=eF w A n c l wa (by omega) A' (d) c' l' wb (by omega) hc b9;obtain ⟨c0,dr,fb⟩:∃ c0,bH (val l) (val l')=c0/\0<=c0:=⟨_,rfl,by unfold bH;rw [if_neg (by omega)];split <;> omega⟩;rw [dr] at h1;have H1:=Qh h1;obtain ⟨g',o',rfl,b4,a9⟩:=wb.at2 (by omega);obtain ⟨t0,bg⟩:∃ t0,wd l' (d-1)=t0:=⟨_,rfl⟩;have c9:=a9 (d-1) (by omega);rw [bg] at c9
  have cp:t0≠0:=by
    rw [<- bg];have:=b9.last (by intro e;have:=bu.out;rw [e] at this;simp at this;omega);rw [<- bu.out] at this;exact this
  have es:t0<4294967296:=by rw [<- bg];exact wb.lt _
  obtain ⟨m,hm,em,el,ed⟩:=ya cp es;have cs:=fun W=>(Tryz.bits_LeadingZeros32 (t0:Int) W (by omega) (by omega))
  simp only [Int.toNat_natCast,em] at cs;have eW:=Qh cs;have ey:=Qh bg;have HM:=Qh (And.intro el ed);have fy:((d:Int)==1)=false:=by simp;omega
  have f1:(0:Int)<=(d:Int):=by omega
  have e7:(d:Int)<=((d+1:Nat):Int):=by omega
  have e4:(d:Int)<=(d:Int)+1:=by omega
  clear h1 dr a9 e8 em el ed cs bg cp;go_in
  go_wp2_with (first
    | (go_at_call 119;refine (H1.out).mono ?_;rintro e w1 ⟨rfl,aS⟩;have di:=(aS.cell (p:=⟨g',o'+(d-1),none⟩) b4).trans c9)
    | (go_at_call 199;refine (eW.out _).mono ?_;rintro e ex ⟨rfl,rfl⟩))
  have k1:Kp w ex:=(Kp.refl w).below aS
  go_region_held3 (fun _=>True) (trivial)
    (first
      | (go_at_call 200;(with_reducible refine (Ez _ (some ⟨g',o',none⟩) (d) c' l' ?_ ?_ m hm).mono ?_);exact wb.keep k1.drew;omega;rintro e w2 ⟨Lv,gv,rfl,ej,bz,a7,c1,ab,b7⟩)
      | (go_at_call 200;(with_reducible refine (Ez _ A n c l ?_ ?_ m hm).mono ?_);exact wa.keep (k1.drew.below b7);omega;rintro e T ⟨Lu,gu,rfl,ds,dO,d9,ep,a2,cv⟩))
  have fc:w.heap.size<=gv:=Nat.le_trans aS.size ej;have d6:gv<gu:=Nat.lt_of_lt_of_le ab.lt ds;have ee:gu<T.heap.size:=a2.lt;have fn:gv<T.heap.size:=Nat.lt_trans d6 ee;have a0:=ab.below cv ab.lt;have bv:Below w.heap.size w T:=(aS.drew.trans (b7.mono aS.size)).trans (cv.mono (Nat.le_trans aS.size b7.size));obtain ⟨N,hN⟩:∃ N,N=n+1-d:=⟨_,rfl⟩;have HN:=Qh hN;have ft:N<=1099511627001:=by omega
  obtain ⟨top,next,Z,M⟩:∃ x y,wd Lv (d-1)=x/\wd Lv (d-2)=y:=⟨_,_,rfl,rfl⟩;have b2:=a0.cell (d-1);rw [aB (by rw [a7];omega),Z] at b2;have a1:=a0.cell (d-2);rw [aB (by rw [a7];omega),M] at a1;have ez:top<4294967296:=by rw [<- Z];exact bN bz _
  have K:next<4294967296:=by rw [<- M];exact bN bz _
  obtain ⟨V,hV⟩:∃ V,V=val l'*2^m:=⟨_,rfl⟩;obtain ⟨U0,eo⟩:∃ U0,U0=val l*2^m:=⟨_,rfl⟩;have R:=xY (nn:=d-2) wb.1 (by rw [<- bu.out];omega) (by rw [show d-2+1=d-1 by omega];exact ey.out) HM.out.1 HM.out.2 (by rw [a7];omega) bz c1;rw [show d-2+2=d by omega,show d-2+1=d-1 by omega,Z,<- hV] at R;have HV:=Qh (And.intro hV (And.intro c1 R));have cu:2147483648<=top:=R.2;have HU:=Qh (And.intro eo ep);have eq:=Qh (And.intro Z M);have a8:=Qh a7;have e6:=Qh d9;have eQ:=Qh a0;have ew:=Qh a2;have ad:=Qh bz;have ev:=Qh dO;clear hN a7 d9 c1 ep R hV eo Z M ab a2 a0 bz dO di c9 ej ds k1 aS b7 cv e7 e4;have i1:IntKind.i64.wrap ((d:Int)-1)=(d:Int)-1:=IntWalk.i64_in _ ⟨by omega,by omega⟩;have i2:IntKind.i64.wrap ((d:Int)-2)=(d:Int)-2:=IntWalk.i64_in _ ⟨by omega,by omega⟩;have i3:(0:Int)<=(d:Int)-1:=by omega
  have i4:(d:Int)-1<(d:Int):=by omega
  have i5:((d:Int)-1).toNat=d-1:=by omega
  have i6:(0:Int)<=(d:Int)-2:=by omega
  have i7:(d:Int)-2<(d:Int):=by omega
  have i8:((d:Int)-2).toNat=d-2:=by omega
  have i9:IntKind.u64.wrap (top:Int)=(top:Int):=IntWalk.u64_in _ ⟨by omega,by omega⟩;have e5:IntKind.u64.wrap (next:Int)=(next:Int):=IntWalk.u64_in _ ⟨by omega,by omega⟩;go_wp2_with (at_make;refine aR _ rfl _ _ rfl _ _ _ _ N rfl rfl (by have:=HN.out;omega) (by have:=HN.out;omega) (by omega) ?_);go_quiet (fail);go_wp2_with fail;clear i1 i2 i3 i4 i5 i6 i7 i8 i9 e5 b2 a1;go_loopw [14] (fun iv wr=>∃ (k:Nat) (L Q:List Nat),k<=N/\iv=.int .i64 ((k:Int)-1)/\L.length=n+1/\Q.length=N/\CX V U0 k L Q/\Blk wr gu 173 (cellsOf L)/\Blk wr T.heap.size 173 (cellsOf Q)/\Blk wr gv 173 (cellsOf Lv)/\Below w.heap.size w wr) (fun iv _=>(intOf iv+1).toNat)
  case atStart =>
    refine ⟨N,Lu,List.replicate N 0,Qr,rfl,e6.out,by simp,⟨ev.out,nQ N,fun j _=>pu N j,?_,?_⟩,?_,?_,?_,?_⟩
    · rw [HU.out.2,HV.out.1];exact vw wa.1 HL.out b9 bu.out e9 HN.out fa
    · rw [nP,HU.out.2,HU.out.1];simp
    · exact (ew.out.alloc _).drewN _
    · exact (Blk.new _ _ _).drewN _
    · exact (eQ.out.alloc _).drewN _
    exact af (bv.alloc bv.size _) _
  case round =>
    obtain ⟨k,L,Q,hk,rfl,d5,dn,hI,a2,dv,ab,F⟩:=hrel;have HI:=Qh hI;have G:=Qh a2;have bs:=Qh dv;have aT:=Qh ab;have E:=Qh d5;have B:=Qh dn;clear hI a2 dv ab d5 dn;by_cases ec:k=0
    · subst ec
      have cr:=vp (a:=val l) (b:=val l') (q:=val Q) (r:=val L) (s:=2^m) (Nat.pow_pos (by omega))
        (by have:=HV.out.2.2.1;have h3:=HV.out.1;rcases Nat.eq_zero_or_pos (val l') with h0 | h0
            · exfalso
              have h4:=HI.out.2.2.2.1;rw [h3,h0,Nat.zero_mul,Nat.zero_mul] at h4;omega
            exact h0)
        (by rw [<- HV.out.1,<- HU.out.1];exact HI.out.2.2.2.2) (by rw [<- HV.out.1];have:=HI.out.2.2.2.1;rw [Nat.pow_zero,Nat.mul_one] at this;exact this)
      have en:=Qh cr;clear cr;have e0:((0:Nat):Int)-1=-1:=rfl;rw [e0];clear e0
      go_wp2_with (first
        | (go_at_call 156;(with_reducible refine (fA _ (some ⟨T.heap.size,0,none⟩) N N Q ?_ (by omega)).mono ?_);exact bs.out.wdN HI.out.2.1 B.out;rintro e w5 ⟨A5,n5,c5,rfl,h5,cL⟩)
        | (go_at_call 203;(with_reducible refine (CU _ (some ⟨gu,0,none⟩) (n+1) (n+1) L ?_ (by omega) m hm).mono ?_);exact (G.out.below cL G.out.lt).wdN HI.out.1 E.out;rintro e w6 ⟨A6,n6,c6,rfl,h6,eg⟩))
      go_ret2;rw [en.out.1] at h5;rw [en.out.2] at h6;exact ⟨_,_,_,_,_,_,rfl,h5.keep ((Kp.refl _).below eg),h6,F.trans ((cL.mono F.size).trans (eg.mono (Nat.le_trans F.size cL.size)))⟩
    have cm:N+d=n+1:=by have:=HN.out;omega
    have fp:=Qh cm;have f0:k+d<=n+1:=by omega
    clear cm;obtain ⟨pa,pb,pc,ch,b3,cc⟩:∃ x y z,wd L (k-1+d)=x/\wd L (k-1+(d-1))=y/\wd L (k-1+(d-2))=z:=⟨_,_,_,rfl,rfl,rfl⟩;have eD:=G.out.cell (k-1+d);rw [aB (by rw [E.out];omega),ch] at eD;have b0:=G.out.cell (k-1+(d-1));rw [aB (by rw [E.out];omega),b3] at b0;have eA:=G.out.cell (k-1+(d-2));rw [aB (by rw [E.out];omega),cc] at eA;have d7:pa<4294967296:=by rw [<- ch];exact bN HI.out.1 _
    have ei:pb<4294967296:=by rw [<- b3];exact bN HI.out.1 _
    have ck:pc<4294967296:=by rw [<- cc];exact bN HI.out.1 _
    have HP:=Qh (And.intro ch (And.intro b3 cc));have bn:0<k:=by omega
    clear ch b3 cc ec;obtain ⟨hd,cy⟩:∃ hd:Nat,hd=pa*4294967296+pb:=⟨_,rfl⟩;have et:=Qh cy;obtain ⟨g0,r0,eb,c8⟩:∃ g0 r0:Nat,hd/top=g0/\hd%top=r0:=⟨_,_,rfl,rfl⟩;have br:=Qh (And.intro eb c8);go_wp2_with fail;have db:k-1+d+1-(k-1)=d+1:=by omega
    rw [db];clear db;have i1:IntKind.i64.wrap ((d:Int)-1)=(d:Int)-1:=IntWalk.i64_in _ ⟨by omega,by omega⟩;have i3:(0:Int)<=(d:Int)-1:=by omega
    have i4:(d:Int)-1<(d:Int)+1:=by omega
    have i5:((d:Int)-1).toNat=d-1:=by omega
    have i6:(d:Int)<(d:Int)+1:=by omega
    have j1:IntKind.u64.wrap (pa:Int)=(pa:Int):=IntWalk.u64_in _ ⟨by omega,by omega⟩;have j2:IntKind.u64.wrap (pb:Int)=(pb:Int):=IntWalk.u64_in _ ⟨by omega,by omega⟩;have j3:IntKind.u64.wrap ((pa:Int)*4294967296)=(pa:Int)*4294967296:=IntWalk.u64_in _ ⟨by omega,by omega⟩;have j4:bits .or .u64 ((pa:Int)*4294967296) (pb:Int)=(hd:Int):=by rw [cy];exact kN d7 ei
    clear cy eb c8
    have cn:=vr (L:=L) (lv:=Lv.take d) (V:=V) (nn:=d-2) (k:=k) (pa:=pa) (pb:=pb) (pc:=pc) (top:=top) (next:=next) HI.out.1 (Wds.take ad.out _) (by rw [List.length_take,a8.out];omega) HV.out.2.2.1 bn HI.out.2.2.2.1
      (by rw [show d-2+2=d by omega];exact HP.out.1) (by rw [show d-2+1=d-1 by omega];exact HP.out.2.1) HP.out.2.2 (by rw [show d-2+1=d-1 by omega,pr (by omega)];exact eq.out.1) (by rw [pr (by omega)];exact eq.out.2)
    rw [show d-2+3=d+1 by omega] at cn;obtain ⟨dq,lowv,a3,c4,a4,eh,b5,c3,d4⟩:=cn;obtain ⟨P,c7⟩:∃ P,Sm (wn L (k-1)) (d+1)=P:=⟨_,rfl⟩;rw [c7] at a3 b5 c3;rw [<- et.out] at a3;have bY:0<top:=by omega
    have ek:0<V:=by
      rw [a4];have:1*(4294967296^(d-2)*4294967296)<=top*(4294967296^(d-2)*4294967296):=Nat.mul_le_mul_right _ bY;have h2:=gN (d-2);omega
    have a5:hd<(top+1)*4294967296:=AW (D:=4294967296^(d-2)) (third:=pc*4294967296^(d-2)+dq) (lowv:=next*4294967296^(d-2)+lowv) (by rw [a3,Nat.add_assoc]) (by rw [a4,Nat.add_assoc]) (by
      have h1:(next+1)*4294967296^(d-2)<=4294967296*4294967296^(d-2):=Nat.mul_le_mul_right _ K;rw [Nat.add_mul,Nat.mul_comm 4294967296] at h1
      omega) b5
    have b6:=qM (pb:=0) a3 c4 ck a4 bY;have b4:=xX a5 cu;have b8:=Nat.div_add_mod hd top;rw [br.out.1] at b6 b4 b8;rw [br.out.2] at b8;have c8:r0<top:=by rw [<- br.out.2];exact Nat.mod_lt _ bY
    obtain ⟨q,cx⟩:∃ q,P/V=q:=⟨_,rfl⟩;rw [cx] at b6;have J:=Qh (And.intro a3 (And.intro c4 (And.intro a4 (And.intro eh (And.intro b5 (And.intro c3 d4))))));have o:=Qh (And.intro c7 cx);have d0:=Qh (And.intro b6 b8);have u:=Qh (And.intro a5 ek);clear a3 c4 a4 eh b5 c3 d4 c7 cx b6 b8 a5 ek;go_quiet (fail);go_wp2_with fail;go_quiet (fail);go_wp2_with fail;clear i1 i3 i4 i5 i6 j1 j2 j3 j4;go_loop [17,18] (fun gx rx=>kO hd top q gx rx) (fun gx _=>(intOf gx).toNat)
    case atStart =>
      have e1:(hd:Int)/(top:Int)=(g0:Int):=by rw [<- br.out.1];simp
      have e2:(hd:Int)%(top:Int)=(r0:Int):=by rw [<- br.out.2];simp
      have e3:IntKind.u64.wrap ((hd:Int)/(top:Int))=(g0:Int):=by rw [e1];exact IntWalk.u64_in _ ⟨by omega,by omega⟩
      exact kO.mk g0 r0 e3 e2 b4 (by omega) (by rw [Nat.mul_comm];exact d0.out.2) d0.out.1
    case round =>
      obtain ⟨g,r,rfl,rfl,fx,fs,hK⟩:=hrel;have HK:=Qh hK;clear hK;have fr:(2:Int)<=(d:Int):=by omega
      obtain ⟨gp,bw⟩:∃ gp:Nat,gp=g*next:=⟨_,rfl⟩;obtain ⟨rp,bd⟩:∃ rp:Nat,rp=r*4294967296+pc:=⟨_,rfl⟩;have ca:=Qh (And.intro bw bd);by_cases hrB:r<4294967296
      · have d1:decide ((r:Int)<4294967296)=true:=by simp;omega
        by_cases hgB:g<4294967296
        · have j1:IntKind.u64.wrap ((g:Int)*(next:Int))=(gp:Int):=by
            have f2:g*next<=4294967295*4294967295:=Nat.mul_le_mul (by omega) (by omega);have e:(g:Int)*(next:Int)=((g*next:Nat):Int):=by simp
            rw [e,bw];exact IntWalk.u64_in _ ⟨Int.natCast_nonneg _,by omega⟩
          have j2:bits .or .u64 ((r:Int)*4294967296) (pc:Int)=(rp:Int):=by rw [bd];exact kN hrB ck
          have d2:decide ((4294967296:Int)<=(g:Int))=false:=by simp;omega
          clear bw bd;by_cases hT:rp<gp
          · have d3:decide ((rp:Int)<(gp:Int))=true:=by simp;omega
            have al:=mo J.out.1 J.out.2.1 J.out.2.2.1 u.out.2 J.out.2.2.2.2.1 HK.out.1 (.inr (by rw [<- ca.out.1,<- ca.out.2];exact hT));rw [o.out.2] at al;have b1:1<=g:=by omega
            go_wp2;clear j1 j2 d1 d2 d3;go_round
            case rel =>
              refine kO.mk (g-1) (r+top) ?_ ?_ ?_ ?_ ?_ ?_
              · omega
              · omega
              · omega
              · omega
              · have h1:=HK.out.1
                have h2:(g-1)*top+top=g*top:=by rw [<- Nat.succ_mul];congr 1;omega
                omega
              omega
            case measure=>simp [intOf];omega
          have d3:decide ((rp:Int)<(gp:Int))=false:=by simp;omega
          have hex:=mq J.out.1 J.out.2.2.1 J.out.2.2.2.1 u.out.2 bY K u.out.1 HK.out.1 (.inr ⟨hgB,by rw [<- ca.out.1,<- ca.out.2];omega⟩);rw [o.out.2] at hex;obtain ⟨U,bl⟩:=hex;have HX:=Qh bl;clear bl;go_wp2_with fail;clear j1 j2 d1 d2 d3;refine (qP _ gu (k-1) (d+1) _ L ?_ HI.out.1 ?_ ?_ (some ⟨gv,0,none⟩) d (d+1) (Lv.take d) ?_ ?_ ?_ g U).mono ?_
          · exact G.out.drewN _
          · rw [E.out];omega
          · omega
          · exact (aT.out.drewN _).wdT ad.out (by rw [a8.out];omega) (by omega)
          · intro a ha;injection ha with ha;subst ha;show gv≠gu;omega
          · omega
          rintro e wR ⟨L1,b,hb,rfl,bk,bx,ao,S⟩;have v:=(bs.out.drewN _).grown S (by intro e;injection e with e;omega);have Y:=(aT.out.drewN _).grown S (by intro e;injection e with e;omega);have H:Below w.heap.size w wR:=(af F _).grown S F.size (by intro x hx;injection hx with hx;omega);have bf:=v.cell (k-1);rw [aB (by rw [B.out];omega)] at bf;have cz:=v.frozen (k-1);have f:=Qh (And.intro bk (And.intro v (And.intro Y (And.intro bx H))));rw [o.out.1,HV.out.2.2.1] at ao;have an:=Qh ao;clear bk v Y H ao S bx;rcases (show b=0\/b=1 by omega) with rfl | rfl
          · have hz:=ol u.out.2 o.out.2.symm HK.out.2 (by have:=an.out;rw [Nat.zero_mul,Nat.add_zero] at this;exact this)
            have HZ:=Qh hz;clear hz;go_wp2;go_roundw
            case rel =>
              refine ⟨k-1,L1,Q.set (k-1) g,by omega,by go_num,by rw [f.out.2.2.2.1.1];exact E.out,by rw [List.length_set];exact B.out,?_,?_,?_,?_,?_⟩
              · rw [HZ.out.1]
                exact jH HI.out bn (by rw [B.out];exact hk) f.out.2.2.2.1 J.out.2.2.2.2.2.2 J.out.2.2.2.2.2.1 HZ.out.2 o.out.2 (by rw [<- HZ.out.1];exact U) u.out.2
              · exact f.out.1.far (by show gu≠T.heap.size;omega) _
              · exact f.out.2.1.setW (k-1) _ _ (by omega)
              · exact f.out.2.2.1.far (by show gv≠T.heap.size;omega) _
              exact f.out.2.2.2.2.setCell (by show w.heap.size<=T.heap.size;omega) _
            case measure=>simp [intOf];omega
          · have b1:1<=g:=by
              rcases Nat.eq_zero_or_pos g with h0 | h0
              · exfalso
                have h1:=an.out;rw [h0,Nat.zero_mul,Nat.add_zero,Nat.one_mul] at h1;have h2:Sm (wn L1 (k-1)) (d+1)<4294967296^(d+1):=fj fun i _=>bN f.out.2.2.2.1.2.1 _
                omega
              exact h0
            go_wp2_with fail;refine (xZ _ gu (k-1) (d+1) _ L1 ?_ f.out.2.2.2.1.2.1 ?_ ?_ (some ⟨gv,0,none⟩) d (d+1) (Lv.take d) ?_ ?_ ?_).mono ?_
            · exact f.out.1
            · rw [f.out.2.2.2.1.1,E.out];omega
            · omega
            · exact f.out.2.2.1.wdT ad.out (by rw [a8.out];omega) (by omega)
            · intro a ha;injection ha with ha;subst ha;show gv≠gu;omega
            · omega
            rintro e wB ⟨L2,cb,b0,rfl,bb,ac,aC,O⟩;have t:=f.out.2.1.grown O (by intro e;injection e with e;omega);have X:=f.out.2.2.1.grown O (by intro e;injection e with e;omega);have I:Below w.heap.size w wB:=f.out.2.2.2.2.grown O f.out.2.2.2.2.size (by intro x hx;injection hx with hx;omega);have a6:=t.cell (k-1);rw [aB (by rw [B.out];omega)] at a6;have ea:=t.frozen (k-1);rw [HV.out.2.2.1] at aC
            have c2:V<=4294967296^(d+1):=by
              have h1:=cF (Wds.take ad.out d);rw [HV.out.2.2.1,List.length_take] at h1;have h2:4294967296^(min d Lv.length)<=4294967296^(d+1):=Nat.pow_le_pow_right (by omega) (by omega);omega
            have hz:=step_one u.out.2 o.out.2.symm HX.out (fj fun i _=>bN f.out.2.2.2.1.2.1 _) an.out aC b0 (fj fun i _=>bN ac.2.1 _);have HZ:=Qh hz;have C:=Qh (And.intro bb (And.intro t (And.intro X (And.intro (f.out.2.2.2.1.trans ac) I))));clear hz bb t X I aC O ac bf cz c2;go_wp2;go_roundw
            case rel =>
              refine ⟨k-1,L2,Q.set (k-1) q,by omega,by go_num,by rw [C.out.2.2.2.1.1];exact E.out,by rw [List.length_set];exact B.out,?_,?_,?_,?_,?_⟩
              · exact jH HI.out bn (by rw [B.out];exact hk) C.out.2.2.2.1 J.out.2.2.2.2.2.2 J.out.2.2.2.2.2.1 HZ.out.2 o.out.2 (by have:=HZ.out.1;omega) u.out.2
              · exact C.out.1.far (by show gu≠T.heap.size;omega) _
              · exact C.out.2.1.setW (k-1) _ _ (by have:=HZ.out.1;omega)
              · exact C.out.2.2.1.far (by show gv≠T.heap.size;omega) _
              exact C.out.2.2.2.2.setCell (by show w.heap.size<=T.heap.size;omega) _
            case measure=>simp [intOf];omega
        have d2:decide ((4294967296:Int)<=(g:Int))=true:=by simp;omega
        have al:=mo J.out.1 J.out.2.1 J.out.2.2.1 u.out.2 J.out.2.2.2.2.1 HK.out.1 (.inl (by omega));rw [o.out.2] at al;have b1:1<=g:=by omega
        clear bw bd;go_wp2;clear d1 d2;go_round
        case rel =>
            refine kO.mk (g-1) (r+top) ?_ ?_ ?_ ?_ ?_ ?_
            · omega
            · omega
            · omega
            · omega
            · have h1:=HK.out.1
              have h2:(g-1)*top+top=g*top:=by rw [<- Nat.succ_mul];congr 1;omega
              omega
            omega
        case measure=>simp [intOf];omega
      have d1:decide ((r:Int)<4294967296)=false:=by simp;omega
      clear bw bd;have hex:=mq J.out.1 J.out.2.2.1 J.out.2.2.2.1 u.out.2 bY K u.out.1 HK.out.1 (.inl (by omega));rw [o.out.2] at hex;obtain ⟨U,bl⟩:=hex;have HX:=Qh bl;clear bl;go_wp2_with fail;clear d1;refine (qP _ gu (k-1) (d+1) _ L ?_ HI.out.1 ?_ ?_ (some ⟨gv,0,none⟩) d (d+1) (Lv.take d) ?_ ?_ ?_ g U).mono ?_
      · exact G.out.drewN _
      · rw [E.out];omega
      · omega
      · exact (aT.out.drewN _).wdT ad.out (by rw [a8.out];omega) (by omega)
      · intro a ha;injection ha with ha;subst ha;show gv≠gu;omega
      · omega
      rintro e wR ⟨L1,b,hb,rfl,bk,bx,ao,S⟩;have v:=(bs.out.drewN _).grown S (by intro e;injection e with e;omega);have Y:=(aT.out.drewN _).grown S (by intro e;injection e with e;omega);have H:Below w.heap.size w wR:=(af F _).grown S F.size (by intro x hx;injection hx with hx;omega);have bf:=v.cell (k-1);rw [aB (by rw [B.out];omega)] at bf;have cz:=v.frozen (k-1);have f:=Qh (And.intro bk (And.intro v (And.intro Y (And.intro bx H))));rw [o.out.1,HV.out.2.2.1] at ao;have an:=Qh ao;clear bk v Y H ao S bx;rcases (show b=0\/b=1 by omega) with rfl | rfl
      · have hz:=ol u.out.2 o.out.2.symm HK.out.2 (by have:=an.out;rw [Nat.zero_mul,Nat.add_zero] at this;exact this)
        have HZ:=Qh hz;clear hz;go_wp2;go_roundw
        case rel =>
          refine ⟨k-1,L1,Q.set (k-1) g,by omega,by go_num,by rw [f.out.2.2.2.1.1];exact E.out,by rw [List.length_set];exact B.out,?_,?_,?_,?_,?_⟩
          · rw [HZ.out.1]
            exact jH HI.out bn (by rw [B.out];exact hk) f.out.2.2.2.1 J.out.2.2.2.2.2.2 J.out.2.2.2.2.2.1 HZ.out.2 o.out.2 (by rw [<- HZ.out.1];exact U) u.out.2
          · exact f.out.1.far (by show gu≠T.heap.size;omega) _
          · exact f.out.2.1.setW (k-1) _ _ (by omega)
          · exact f.out.2.2.1.far (by show gv≠T.heap.size;omega) _
          exact f.out.2.2.2.2.setCell (by show w.heap.size<=T.heap.size;omega) _
        case measure=>simp [intOf];omega
      · have b1:1<=g:=by
          rcases Nat.eq_zero_or_pos g with h0 | h0
          · exfalso
            have h1:=an.out;rw [h0,Nat.zero_mul,Nat.add_zero,Nat.one_mul] at h1;have h2:Sm (wn L1 (k-1)) (d+1)<4294967296^(d+1):=fj fun i _=>bN f.out.2.2.2.1.2.1 _
            omega
          exact h0
        go_wp2_with fail;refine (xZ _ gu (k-1) (d+1) _ L1 ?_ f.out.2.2.2.1.2.1 ?_ ?_ (some ⟨gv,0,none⟩) d (d+1) (Lv.take d) ?_ ?_ ?_).mono ?_
        · exact f.out.1
        · rw [f.out.2.2.2.1.1,E.out];omega
        · omega
        · exact f.out.2.2.1.wdT ad.out (by rw [a8.out];omega) (by omega)
        · intro a ha;injection ha with ha;subst ha;show gv≠gu;omega
        · omega
        rintro e wB ⟨L2,cb,b0,rfl,bb,ac,aC,O⟩;have t:=f.out.2.1.grown O (by intro e;injection e with e;omega);have X:=f.out.2.2.1.grown O (by intro e;injection e with e;omega);have I:Below w.heap.size w wB:=f.out.2.2.2.2.grown O f.out.2.2.2.2.size (by intro x hx;injection hx with hx;omega);have a6:=t.cell (k-1);rw [aB (by rw [B.out];omega)] at a6;have ea:=t.frozen (k-1);rw [HV.out.2.2.1] at aC
        have c2:V<=4294967296^(d+1):=by
          have h1:=cF (Wds.take ad.out d);rw [HV.out.2.2.1,List.length_take] at h1;have h2:4294967296^(min d Lv.length)<=4294967296^(d+1):=Nat.pow_le_pow_right (by omega) (by omega);omega
        have hz:=step_one u.out.2 o.out.2.symm HX.out (fj fun i _=>bN f.out.2.2.2.1.2.1 _) an.out aC b0 (fj fun i _=>bN ac.2.1 _);have HZ:=Qh hz;have C:=Qh (And.intro bb (And.intro t (And.intro X (And.intro (f.out.2.2.2.1.trans ac) I))));clear hz bb t X I aC O ac bf cz c2;go_wp2;go_roundw
        case rel =>
          refine ⟨k-1,L2,Q.set (k-1) q,by omega,by go_num,by rw [C.out.2.2.2.1.1];exact E.out,by rw [List.length_set];exact B.out,?_,?_,?_,?_,?_⟩
          · exact jH HI.out bn (by rw [B.out];exact hk) C.out.2.2.2.1 J.out.2.2.2.2.2.2 J.out.2.2.2.2.2.1 HZ.out.2 o.out.2 (by have:=HZ.out.1;omega) u.out.2
          · exact C.out.1.far (by show gu≠T.heap.size;omega) _
          · exact C.out.2.1.setW (k-1) _ _ (by have:=HZ.out.1;omega)
          · exact C.out.2.2.1.far (by show gv≠T.heap.size;omega) _
          exact C.out.2.2.2.2.setCell (by show w.heap.size<=T.heap.size;omega) _
        case measure=>simp [intOf];omega

theorem qR (w:World) (A n c l) (f:Wd w A n c l) (k:n<=1099511627000) (A' n' c' l') (b:Wd w A' n' c' l') (j:n'<=1099511627000) (d:aZ l) (a:aZ l') (i:val l'≠0) :
 Calls Tryz.prog 171 #[.slice A n c,.slice A' n' c'] w (sV w (val l) (val l')):=by
 rcases Nat.lt_or_ge (val l) (val l') with h | h
 ·exact vv w A n c l f (by omega) A' n' c' l' b (by omega) d a h
 by_cases h1:n'=1
 ·exact sW w A n c l f (by omega) A' n' c' l' b d a h h1
 refine sX w A n c l f k A' n' c' l' b ?_ d a h;rcases Nat.eq_zero_or_pos n' with g | g
 ·exfalso
  have:=b.2.1;rw [g] at this;rw [List.eq_nil_of_length_eq_zero this.symm] at i;exact i rfl
 omega

def yb (w:World) (p:Addr):Nat:=match w.cell? p with
  | some (.int _ z)=>z.toNat
  | _=>0
def valOf (w:World):Value->Nat
  | .slice (some a) n _=>val ((List.range n).map fun i=>yb w ⟨a.block,a.off+i,none⟩)
  | _=>0
theorem Wd.valOf {w:World}{A:Option Addr}{n c:Nat}{l:List Nat}(h:Wd w A n c l):valOf w (.slice A n c)=val l:=by
 rcases Nat.eq_zero_or_pos n with a | a
 ·subst a
  have:=h.2.1;have d:l=[]:=List.eq_nil_of_length_eq_zero this.symm;subst d;unfold Go.Proofs.YtndhgcfajlalhaaGreatDoor.valOf;cases A <;> rfl
 obtain ⟨g,o,rfl,j⟩:=h.at_ a;unfold Go.Proofs.YtndhgcfajlalhaaGreatDoor.valOf;show val _=val l;congr 1;apply List.ext_getElem
 ·simp [h.2.1]
 intro i k b;have f:i<n:=by rw [h.2.1];exact b
 simp only [List.getElem_map,List.getElem_range,yb];rw [j i f];simp [wd,b]
theorem ua {w:World}{A:Option Addr}{n c:Nat}{x y:Nat}(h:Wd w A n c (ap (x%y))) (a:y≠0) {N:Nat}(hN:y<4294967296^N):n<=N:=by
 rw [h.2.1];exact ay (Nat.lt_trans (Nat.mod_lt _ (Nat.pos_of_ne_zero a)) hN)

theorem mr (a:WD):a.z.natAbs=val a.m:=by
 rw [a.z_eq];cases a.s <;> simp [sgn]
def EB (G:Nat) (W0 wr:World) (x y:Value):Prop:=∃ A1 n1 c1 l1 A2 n2 c2 l2,x=.slice A1 n1 c1/\y=.slice A2 n2 c2/\n1<=1099511627000/\n2<=1099511627000/\AL (Wd wr A1 n1 c1 l1/\Wd wr A2 n2 c2 l2/\aZ l1/\aZ l2/\Nat.gcd (val l1) (val l2)=G)/\Below W0.heap.size W0 wr
theorem ED (w:World) (b:Bool) (A n c l) (j:Wd w A n c l) (hn:n<=1099511627000) (k:Bool) (A' n' c' l') (i:Wd w A' n' c' l') (P:n'<=1099511627000) :
 Calls Tryz.prog 137 #[.agg #[.bool b,.slice A n c],.agg #[.bool k,.slice A' n' c']] w (gP w (wh (Nat.gcd (WD.z ⟨b,l⟩).natAbs (WD.z ⟨k,l'⟩).natAbs:Nat))):=by
 have HL:=Qh j.2.1;have R:=Qh i.2.1;have C:aZ (WD.m ⟨b,l⟩):=WD.canon_m j.1;have r:aZ (WD.m ⟨k,l'⟩):=WD.canon_m i.1;rw [mr ⟨b,l⟩,mr ⟨k,l'⟩];obtain ⟨G,K⟩:∃ G,Nat.gcd (val (WD.m ⟨b,l⟩)) (val (WD.m ⟨k,l'⟩))=G:=⟨_,rfl⟩;rw [K];have Q:=Qh K;clear K;go_in;go_wp2_with fail;have b0:Below w.heap.size w (((w.alloc (.cells #[.bool b,.slice A n c] 134)).alloc (.cells #[.bool k,.slice A' n' c'] 134)).alloc (.cells #[.bool false,.slice none 0 0] 134)):=((((Below.refl _ _).alloc Qr _).alloc (by simp) _).alloc (by simp;omega) _);generalize a:(((w.alloc (.cells #[.bool b,.slice A n c] 134)).alloc (.cells #[.bool k,.slice A' n' c'] 134)).alloc (.cells #[.bool false,.slice none 0 0] 134))=W0 at b0 ⊢;have aT:W0.cell? ⟨w.heap.size,0,none⟩=some (.bool b):=by subst a;simp [go_sem]
 have al:W0.frozen? ⟨w.heap.size,0,none⟩=false:=by subst a;simp [go_sem]
 have a1:W0.cell? ⟨w.heap.size,1,none⟩=some (.slice A n c):=by subst a;simp [go_sem]
 have aS:W0.frozen? ⟨w.heap.size,1,none⟩=false:=by subst a;simp [go_sem]
 have ac:W0.cell? ⟨w.heap.size+1,0,none⟩=some (.bool k):=by subst a;simp [go_sem]
 have an:W0.frozen? ⟨w.heap.size+1,0,none⟩=false:=by subst a;simp [go_sem]
 have ao:W0.cell? ⟨w.heap.size+1,1,none⟩=some (.slice A' n' c'):=by subst a;simp [go_sem]
 have ad:W0.frozen? ⟨w.heap.size+1,1,none⟩=false:=by subst a;simp [go_sem]
 have a2:W0.cell? ⟨w.heap.size+1+1,0,none⟩=some (.bool false):=by subst a;simp [go_sem]
 have aC:W0.frozen? ⟨w.heap.size+1+1,0,none⟩=false:=by subst a;simp [go_sem]
 have a0:W0.cell? ⟨w.heap.size+1+1,1,none⟩=some (.slice none 0 0):=by subst a;simp [go_sem]
 have ab:W0.frozen? ⟨w.heap.size+1+1,1,none⟩=false:=by subst a;simp [go_sem]
 have x0:Box W0 w.heap.size 134:=by subst a;exact ((bG _ _ _ (by simp)).alloc _).alloc _
 have x1:Box W0 (w.heap.size+1) 134:=by subst a;exact (bG _ _ _ (by simp)).alloc _
 have x2:Box W0 (w.heap.size+1+1) 134:=by subst a;exact bG _ _ _ (by simp)
 have g:ji (w.heap.size+1+1) (w.heap.size+1+1+1) 2 W0:=by subst a;exact lu (by simp)
 have f:w.heap.size+1+1+1<=W0.heap.size:=by subst a;simp
 clear a;have j:=j.belw b0;have i:=i.belw b0;have r0:Below W0.heap.size W0 W0:=ae _
 go_region_held3 (fun w'=>ba (w.heap.size+1+1) (w.heap.size+1+1+1) 2 W0 w') (first | exact ba.of (by omega) f g (by assumption) | exact ba.of (by omega) f g (af (by assumption) _))
  (first
   | (go_at_call 120;(with_reducible refine (eO _ b A n c l ?_ ?_).mono ?_);(exact j);(omega);rintro e w1 ⟨Z,U,c1,rfl,E,h⟩;replace h:=aj (af (ae _) 1) h;have r1:=aj r0 h;replace j:=j.belw h;replace i:=i.belw h)
   | (go_at_call 120;(with_reducible refine (eO _ k A' n' c' l' ?_ ?_).mono ?_);(exact i);(omega);rintro e w2 ⟨A2,W,c2,rfl,X,p⟩;have r2:=aj r1 p;replace j:=j.belw p;replace i:=i.belw p;replace E:=E.belw p))
 obtain ⟨⟨sc,D⟩,B,sz⟩:=ba.of (by omega) f g r2;have F:U<=1099511627000:=E.m_len (by rw [<- HL.out];exact hn);have S:W<=1099511627000:=X.m_len (by rw [<- R.out];exact P);have L:EB G W0 w2 (.slice Z U c1) (.slice A2 W c2):=⟨Z,U,c1,_,A2,W,c2,_,rfl,rfl,F,S,⟨E,X,C,r,Q.out⟩,r2⟩;go_wp2_with fail;clear sc D B sz;go_loopw [5,6] (fun x y wr=>EB G W0 wr x y) (fun _ y wr=>valOf wr y)
 case atStart=>exact L
 case round =>
  obtain ⟨A3,Y,c3,l3,N,n4,c4,s,rfl,rfl,M,q,d,O⟩:=hrel;have I:valOf wr (.slice N n4 c4)=val s:=d.2.1.valOf;by_cases t:n4=0
  ·have e1:decide (0<n4)=false:=by simp;omega
   have H:s=[]:=List.eq_nil_of_length_eq_zero (by rw [<- d.2.1.2.1];exact t);have hg:val l3=G:=by have:=d.2.2.2.2;rw [H] at this;simpa [val] using this
   have HG:=Qh hg;clear hg t;obtain ⟨⟨sc,D⟩,B,sz⟩:=ba.of (by omega) f g O;go_wp2_with (go_at_call 140;refine (cZ _ false A3 Y c3 l3 (G:Nat) ?_ ?_ ?_).mono ?_;(exact d.1);(omega);(rw [HG.out];rfl);rintro e w9 ⟨A5,n5,c5,rfl,h5,o⟩;have J:=aj O o;clear sc D B sz;obtain ⟨⟨sc,D⟩,B,sz⟩:=ba.of (by omega) f g J);refine bodyPost_ret (v:=.agg #[.bool _,.slice A5 n5 c5]) (by simp [results,Tryz.results137,go_sem,B];rfl) rfl ?_;have x:=x2.below J;refine gR ?_ ?_ ?_
   ·rfl
   ·exact h5.keep (kp2 x (by decide) _ _ _ _)
   exact ((b0.trans (J.mono b0.size)).setCell (by dsimp only;omega) _).setCell (by dsimp only;omega) _
  have e1:decide (0<n4)=true:=by simp;omega
  have u:val s≠0:=by
   intro e;have:=(cW d.2.2.2.1).1 e;have h9:=d.2.1.2.1;rw [this] at h9;exact t h9
  have V:=Qh u;have H0:=Qh t;clear t u;go_wp2_with (go_at_call 171;refine (qR _ A3 Y c3 l3 ?_ ?_ N n4 c4 s ?_ ?_ ?_ ?_ ?_).mono ?_;(exact d.1);(exact M);(exact d.2.1);(exact q);(exact d.2.2.1);(exact d.2.2.2.1);(exact V.out);rintro e w9 ⟨A5,n5,c5,A6,n6,c6,rfl,h5,T,o⟩);go_roundw
  case rel =>
   refine ⟨N,n4,c4,s,A6,n6,c6,_,rfl,rfl,q,?_,⟨d.2.1.belw o,T,d.2.2.2.1,dw _,?_⟩,aj O o⟩
   ·exact Nat.le_trans (ua T V.out (d.2.1.vlt Qr)) q
   rw [ah,Nat.gcd_comm,<- Nat.gcd_rec,Nat.gcd_comm];exact d.2.2.2.2
  case measure =>
   rw [T.valOf,I,ah];exact Nat.mod_lt _ (Nat.pos_of_ne_zero V.out)
  
end Go.Proofs.YtndhgcfajlalhaaGreatDoor
