/- Part EN1: lemmas and walks that the claim rests on. No claim is made here. -/
import Derived.Below
import Derived.Laws.OwnMore
import Derived.Deep.Draws
import Derived.OneCell
import Derived.Laws.Rows
import Derived.Test.YtndhgcfajlalhaaGreatDoorProg
import Derived.WalkKit
import Derived.WalkSpells
import Derived.WalkLawsBesides
import Derived.BigQuiet
import Derived.Deep.QuietTactic
import Derived.Deep.AppendLies
import Derived.Lib.Hide
import Derived.Deep.RegionHeld3
import Derived.Deep.DrawnRows
import Derived.Shelf.Strings.Builder1
import Derived.Shelf.Strings.Builder2
import Derived.Shelf.Strings.OnBuilder
import Derived.Shelf.Strings.Trim
import Derived.Shelf.Small.Utf8
import Derived.Shelf.Small.Bits
import Derived.Shelf.Small.Strs
import Derived.Shelf.Small.Wraps
import Derived.Shelf.Strings.BuilderF
import Derived.Shelf.Strings.BuilderK
import Derived.Shelf.Strings.Builder2Cap
import Derived.Shelf.Strconv.Atoi
import Derived.Shelf.Strconv.Itoa0
import Derived.Shelf.Strconv.Itoa1
import Derived.Shelf.LaysM
import Derived.Shelf.Strconv.Itoa2
import Derived.Shelf.Strconv.Itoa3
import Derived.Shelf.Strconv.AtoiErrFast
import Derived.Shelf.Strconv.ParseIntEmpty
import Derived.Shelf.Strconv.AtoiFail
import Derived.Shelf.Strconv.Clone
import Derived.Shelf.Strconv.SyntaxError
import Derived.Shelf.LaysC
import Derived.Shelf.Strconv.ToError
import Derived.Shelf.Strconv.Lower
import Derived.Shelf.Strconv.ParseUint10
import Derived.Shelf.Strconv.ParseUint10Empty
import Derived.Shelf.Strconv.ParseUint10Any
import Derived.Shelf.Strconv.ParseInt10
import Derived.Shelf.Strconv.AtoiLong
import Derived.Shelf.Strconv.AtoiInnerAll
import Derived.Shelf.Strconv.RangeError
import Derived.Shelf.Strconv.ToErrorRange
import Derived.Shelf.Strconv.AtoiAll
import Derived.Shelf.Strconv.ParseUintEmpty
import Derived.Shelf.Strings.Search1
import Derived.Shelf.Strings.Search2
import Derived.Shelf.Strings.Cut
import Derived.Shelf.Strings.Shaped
import Derived.Shelf.Strings.Prefix
import Derived.Shelf.Unicode.Decode
import Derived.Shelf.Strings.Runes
import Derived.Shelf.Strings.AsciiSet
import Derived.Shelf.Bits.Mul64
import Derived.Shelf.Strings.Repeat
import Derived.Shelf.Unicode.DecodeSlow
import Derived.Shelf.Unicode.DecodeAny
import Derived.Shelf.Unicode.DecodeLast
import Derived.Shelf.Strings.BuilderCap
import Derived.IntWalk
import Derived.Deep.DeepCutAuto
import Derived.Deep.RegionHeld
import Derived.Lib.ItoaNum
import Derived.Lib.ItoaMem
import Derived.Lib.Repeat
import Derived.Lib.Join
import Derived.Lib.Atoi
import Derived.Lib.SlTrimSet
import Derived.Lib.AppendIntMem
import Derived.Shelf.Strings.SlTrimAscii
import Derived.Lib.IndexMore
import Derived.Lib.SliceRun
import Derived.Laws.StructEq
import Derived.Test.YtndhgcfajlalhaaGreatDoorCards
import Derived.Test.YtndhgcfajlalhaaGreatDoorTie
import Derived.ProofKit
import Derived.OpenShut
import Derived.Deep.DeepHandedRow
import Derived.Lib.LaidTab
import Derived.Shelf.Vars
import Derived.Deep.Slices
import Derived.SizedLaws
import Derived.ChangeMaps5
set_option linter.unusedVariables false
set_option maxHeartbeats 8000000
set_option maxRecDepth 100000
namespace Bn
theorem Qh {p : Prop} (h : p) : Go.RowKit.Hid p := h
theorem Qr {a : Nat} : a ≤ a := Nat.le_refl a
end Bn
namespace Go
theorem Qh {p : Prop} (h : p) : Go.RowKit.Hid p := h
theorem Qr {a : Nat} : a ≤ a := Nat.le_refl a
end Go
/- Plain numbers in base 2^32: the value of a list of words, the list of words of a number. No program in sight. -/
namespace Go.RowKit
open Go
theorem Below.sc {B:Nat}{a w:World}(h:Below B a w) (g i:Nat) (hp:B≤g) (u:Value):Below B a (w.setCell ⟨g,i,none⟩ u):=h.setCell (p:=⟨g,i,none⟩) hp u
theorem Below.q1 {w w1:World}{o:Obj}(h:Below (w.alloc o).heap.size (w.alloc o) w1):Below w.heap.size w w1:=((Below.refl _ _).alloc Qr _).trans (h.mono (by simp))
theorem Below.q2 {w w1:World}{o o':Obj}(h:Below ((w.alloc o).alloc o').heap.size ((w.alloc o).alloc o') w1):Below w.heap.size w w1:=(((Below.refl _ _).alloc Qr _).alloc (by simp) _).trans (h.mono (by simp <;> omega))
theorem Below.q3 {w w1:World}{o o' p:Obj}(h:Below (((w.alloc o).alloc o').alloc p).heap.size (((w.alloc o).alloc o').alloc p) w1):Below w.heap.size w w1:=((((Below.refl _ _).alloc Qr _).alloc (by simp) _).alloc (by simp <;> omega) _).trans (h.mono (by simp <;> omega))
theorem Below.l1 {w w1:World}{o:Obj}(h:Below (w.alloc o).heap.size (w.alloc o) w1):w.heap.size+1≤w1.heap.size:=by have:=h.size;simp at this;omega
theorem Below.l2 {w w1:World}{o o':Obj}(h:Below ((w.alloc o).alloc o').heap.size ((w.alloc o).alloc o') w1):w.heap.size+2≤w1.heap.size:=by have:=h.size;simp at this;omega
theorem Below.l3 {w w1:World}{o o' p:Obj}(h:Below (((w.alloc o).alloc o').alloc p).heap.size (((w.alloc o).alloc o').alloc p) w1):w.heap.size+3≤w1.heap.size:=by have:=h.size;simp at this;omega
theorem fmc {α:Type}{p:α→Prop}{a:α}{l:List α}(h:p a∧∀ x∈l,p x):∀ x∈a :: l,p x:=List.forall_mem_cons.2 h
end Go.RowKit
namespace Bn
def Sm (f:Nat→Nat):Nat→Nat
  | 0=>0
  | n+1=>Sm f n+f n * 4294967296 ^ n
def wd (l:List Nat) (i:Nat):Nat:=l.getD i 0
def val:List Nat→Nat
  | []=>0
  | x :: l=>x+4294967296 * val l
def am (n:Nat):List Nat:=if h:n=0 then [] else n % 4294967296 :: am (n / 4294967296)
termination_by n
decreasing_by omega
def Wds (l:List Nat):Prop:=∀ x∈l,x < 4294967296
def aO (l:List Nat):Prop:=Wds l∧l.getLast?≠some 0

theorem fG (n:Nat):0 < 4294967296 ^ n:=Nat.pow_pos (by omega)

theorem av:am 0=[]:=by unfold am;simp
theorem eP {n:Nat}(h:n≠0):am n=n % 4294967296 :: am (n / 4294967296):=by rw [am];simp [h]

theorem ag (n:Nat):val (am n)=n:=by
 induction n using Nat.strongRecOn with
 | ind n ih =>
  by_cases h:n=0
  ·subst h;simp [av,val]
  rw [eP h,val,ih _ (by omega)];omega

theorem aP {n:Nat}:am n=[] ↔ n=0:=by
 constructor
 ·intro h;have:=ag n;rw [h] at this;simpa [val] using this.symm
 rintro rfl;exact av

theorem dL (n:Nat):Wds (am n):=by
 induction n using Nat.strongRecOn with
 | ind n ih =>
  by_cases h:n=0
  ·subst h;simp [av,Wds]
  rw [eP h];intro x hx;rcases List.mem_cons.1 hx with rfl | hx
  ·omega
  exact ih _ (by omega) x hx

theorem rG (n:Nat):(am n).getLast?≠some 0:=by
 induction n using Nat.strongRecOn with
 | ind n ih =>
  by_cases h:n=0
  ·subst h;simp [av]
  rw [eP h];by_cases h2:n / 4294967296=0
  ·rw [h2,av];simp;omega
  have:=ih _ (show n / 4294967296 < n by omega);have hne:am (n / 4294967296)≠[]:=fun e=>h2 (aP.1 e)
  rw [List.getLast?_cons_of_ne_nil hne];exact this

theorem dc (n:Nat):aO (am n):=⟨dL n,rG n⟩

theorem dM:∀ {l:List Nat},aO l→am (val l)=l:=by
 intro l
 induction l with
 | nil=>intro _;simp [val,av]
 | cons x l ih =>
  intro ⟨hw,hl⟩;have hx:x < 4294967296:=hw x (by simp);have hwl:Wds l:=fun y hy=>hw y (by simp [hy])
  by_cases he:l=[]
  ·subst he
   simp at hl;simp only [val];rw [eP (by omega)];have e1:(x+4294967296 * 0) % 4294967296=x:=by omega
   have e2:(x+4294967296 * 0) / 4294967296=0:=by omega
   rw [e1,e2,av]
  have hc:aO l:=⟨hwl,by rw [List.getLast?_cons_of_ne_nil he] at hl;exact hl⟩;have hv:=ih hc
  have hne:val l≠0:=by
   intro e;rw [e,av] at hv;exact he hv.symm
  simp only [val];rw [eP (by omega)];have e1:(x+4294967296 * val l) % 4294967296=x:=by omega
  have e2:(x+4294967296 * val l) / 4294967296=val l:=by omega
  rw [e1,e2,hv]

theorem cF {l:List Nat}(h:Wds l):val l < 4294967296 ^ l.length:=by
 induction l with
 | nil=>simp [val]
 | cons x l ih =>
  have hx:x < 4294967296:=h x (by simp);have:=ih (fun y hy=>h y (by simp [hy]));simp only [val,List.length_cons,Nat.pow_succ];omega

theorem pr {l:List Nat}(h:aO l) (hne:l≠[]):4294967296 ^ (l.length - 1)≤val l:=by
 induction l with
 | nil=>exact absurd rfl hne
 | cons x l ih =>
  by_cases he:l=[]
  ·subst he
   have:=h.2;simp at this;simp [val];omega
  have hc:aO l:=⟨fun y hy=>h.1 y (by simp [hy]),by have:=h.2;rw [List.getLast?_cons_of_ne_nil he] at this;exact this⟩;have h1:=ih hc he;have hp:0 < l.length:=List.length_pos_iff.2 he;have e:(x :: l).length - 1=(l.length - 1)+1:=by simp;omega
  rw [e,Nat.pow_succ];simp only [val];omega

theorem ar {n k:Nat}(h:n < 4294967296 ^ k):(am n).length≤k:=by
 by_cases h0:n=0
 ·subst h0;simp [av]
 have hne:am n≠[]:=fun e=>h0 (aP.1 e)
 have h1:=pr (dc n) hne;rw [ag] at h1;have h2:4294967296 ^ ((am n).length - 1) < 4294967296 ^ k:=Nat.lt_of_le_of_lt h1 h;have h3:(am n).length - 1 < k:=(Nat.pow_lt_pow_iff_right (by omega)).1 h2;omega

/-! ### prefix sums -/
theorem bF {l:List Nat}(h:Wds l) (i:Nat):wd l i < 4294967296:=by
 unfold wd;by_cases hi:i < l.length
 ·simp [List.getD,hi];exact h _ (List.getElem_mem hi)
 simp [List.getD,List.getElem?_eq_none (Nat.le_of_not_lt hi)]
theorem dN {l:List Nat}{i:Nat}(h:l.length≤i):wd l i=0:=by
 simp [wd,List.getD,List.getElem?_eq_none h]
theorem kn {l:List Nat}{i:Nat}(h:i < l.length):wd l i=l[i]:=by
 simp [wd,List.getD,h]

theorem dt {f g:Nat→Nat}{n:Nat}(h:∀ i,i < n→f i=g i):Sm f n=Sm g n:=by
 induction n with
 | zero=>rfl
 | succ n ih=>simp only [Sm];rw [ih (fun i hi=>h i (by omega)),h n (by omega)]

theorem er {f:Nat→Nat}{n:Nat}(h:∀ i,i < n→f i < 4294967296):Sm f n < 4294967296 ^ n:=by
 induction n with
 | zero=>simp [Sm]
 | succ n ih =>
  have h1:=ih (fun i hi=>h i (by omega));have h2:=h n (by omega);simp only [Sm,Nat.pow_succ];have:f n * 4294967296 ^ n≤4294967295 * 4294967296 ^ n:=Nat.mul_le_mul_right _ (by omega);omega

theorem nA (f:Nat→Nat) (n:Nat):Sm f (n+1)=f 0+4294967296 * Sm (fun i=>f (i+1)) n:=by
 induction n with
 | zero=>simp [Sm]
 | succ n ih =>
  rw [Sm,ih];simp only [Sm,Nat.pow_succ];rw [Nat.mul_add]
  have:f (n+1) * (4294967296 ^ n * 4294967296)=4294967296 * (f (n+1) * 4294967296 ^ n):=by
   rw [Nat.mul_comm (4294967296 ^ n),← Nat.mul_assoc,Nat.mul_comm (f (n+1)),Nat.mul_assoc]
  omega

theorem eR (l:List Nat):val l=Sm (wd l) l.length:=by
 induction l with
 | nil=>rfl
 | cons x l ih =>
  rw [List.length_cons,nA,val,ih];rfl

theorem aX (l:List Nat) {n:Nat}(h:l.length≤n):Sm (wd l) n=val l:=by
 induction n with
 | zero =>
  have:l=[]:=List.eq_nil_of_length_eq_zero (by omega);subst this;rfl
 | succ n ih =>
  by_cases hn:l.length≤n
  ·rw [Sm,ih hn,dN hn];simp
  have:l.length=n+1:=by omega
  rw [eR,this]

theorem bP (l:List Nat) (i x j:Nat):wd (l.set i x) j=if i=j∧j < l.length then x else wd l j:=by
 simp only [wd,List.getD,List.getElem?_set];by_cases h:i=j
 ·subst h
  by_cases hi:i < l.length
  ·simp [hi]
  simp [hi]
 simp [h]

theorem wds_set {l:List Nat}(h:Wds l) (i:Nat) {x:Nat}(hx:x < 4294967296):Wds (l.set i x):=by
 intro y hy;rcases List.mem_or_eq_of_mem_set hy with h1 | h1
 ·exact h y h1
 omega

theorem bM (l:List Nat) (i x:Nat) (h:i < l.length):Sm (wd (l.set i x)) (i+1)=Sm (wd l) i+x * 4294967296 ^ i:=by
 rw [Sm,bP,if_pos ⟨rfl,h⟩];congr 1;exact dt fun j hj=>by rw [bP,if_neg (by omega)]
theorem fl (l:List Nat) (i x n:Nat) (h:i < l.length) (hn:i < n):Sm (wd (l.set i x)) n+wd l i * 4294967296 ^ i=Sm (wd l) n+x * 4294967296 ^ i:=by
 induction n with
 | zero=>omega
 | succ n ih =>
  by_cases he:i=n
  ·subst he
   rw [bM l i x h,Sm];omega
  have:=ih (by omega);rw [Sm,Sm,bP,if_neg (by omega)];omega

/-! ### trimming -/
theorem bD {l:List Nat}(h:Wds l) {n:Nat}(hn:n≤l.length) (hz:∀ i,n≤i→wd l i=0) (hl:n=0∨wd l (n - 1)≠0):am (val l)=l.take n:=by
  have hw:Wds (l.take n):=fun x hx=>h x (List.mem_of_mem_take hx)
  have hlen:(l.take n).length=n:=by simp;omega
  have hv:val (l.take n)=val l:=by
    rw [eR,hlen,← aX l Qr]
    have h1:Sm (wd (l.take n)) n=Sm (wd l) n:=dt fun i hi=>by
      simp [wd,List.getD,hi]
    rw [h1]
    have:∀ m,n≤m→Sm (wd l) n=Sm (wd l) m:=by
      intro m hm
      induction m with
      | zero => have:n=0:=by omega
                subst this;rfl
      | succ m ih =>
        by_cases he:n=m+1
        · subst he;rfl
        rw [Sm,hz m (by omega),ih (by omega)];simp
    exact this _ hn
  have hc:aO (l.take n):=by
    refine ⟨hw,?_⟩;rcases hl with rfl | hl
    · simp
    rw [List.getLast?_eq_getElem?,hlen];by_cases h0:n=0
    · subst h0;simp
    have:n - 1 < (l.take n).length:=by omega
    rw [List.getElem?_eq_getElem this];intro e;apply hl;rw [kn (by omega)];have e2:(l.take n)[n-1]=l[n-1]'(by omega):=by simp
    injection e with e;rw [← e2];exact e
  rw [← hv,dM hc]

theorem rH:aO []:=⟨by simp [Wds],by simp⟩
theorem aO.last {l:List Nat}(h:aO l) (hne:l≠[]):wd l (l.length - 1)≠0:=by
 have hp:0 < l.length:=List.length_pos_iff.2 hne;have:=h.2;rw [List.getLast?_eq_getElem?,List.getElem?_eq_getElem (by omega)] at this;rw [kn (by omega)];intro e;apply this;rw [e]
theorem lG {l:List Nat}(h:Wds l):aO l ↔ (l.length=0∨wd l (l.length - 1)≠0):=by
 constructor
 ·intro hc
  by_cases he:l=[]
  ·left;simp [he]
  right;exact hc.last he
 intro hh;have:=bD h (Nat.le_refl l.length) (fun i hi=>dN hi) hh;rw [List.take_length] at this;rw [← this];exact dc _
end Bn
namespace Bn
/-! ### comparing lists -/
theorem nB (f:Nat→Nat) {m n:Nat}(h:m≤n):Sm f m≤Sm f n:=by
  induction n with
  | zero => have:m=0:=by omega
            subst this;exact Qr
  | succ n ih =>
    by_cases e:m=n+1
    · subst e;exact Qr
    rw [Sm];have:=ih (by omega);omega
theorem tj {f g:Nat→Nat}{i:Nat}(hf:∀ j,f j < 4294967296) (hi:f i < g i):∀ n,i < n→(∀ j,i < j→f j=g j)→Sm f n < Sm g n:=by
 intro n
 induction n with
 | zero=>intro h;omega
 | succ n ih =>
  intro h ha;by_cases e:i=n
  ·subst e
   rw [Sm,Sm];have h1:=er (f:=f) (n:=i) (fun j _=>hf j);have h2:(f i+1) * 4294967296 ^ i≤g i * 4294967296 ^ i:=Nat.mul_le_mul_right _ hi;rw [Nat.add_mul] at h2;omega
  rw [Sm,Sm,ha n (by omega)];have:=ih (by omega) ha;omega
theorem fW {a b:List Nat}(ha:Wds a) {i:Nat}(hi:wd a i < wd b i) (hag:∀ j,i < j→wd a j=wd b j):val a < val b:=by
 have h:=tj (f:=wd a) (g:=wd b) (fun j=>bF ha j) hi (max (max a.length b.length) (i+1)) (by omega) hag;rwa [aX a (by omega),aX b (by omega)] at h
theorem lH {a b:List Nat}(h:∀ j,wd a j=wd b j):val a=val b:=by
 rw [← aX a (Nat.le_max_left a.length b.length),← aX b (Nat.le_max_right a.length b.length)];exact dt fun j _=>h j
theorem dh {a b:List Nat}(ha:Wds a) (hb:aO b) (h:a.length < b.length):val a < val b:=by
 have h1:=cF ha;have h2:=pr hb (by rintro rfl;simp at h);have h3:4294967296 ^ a.length≤4294967296 ^ (b.length - 1):=Nat.pow_le_pow_right (by omega) (by omega);omega
def bq (a b:Nat):Int:=if a < b then -1 else if a=b then 0 else 1
end Bn

/- Roots and greatest common divisors, in plain numbers. -/
namespace Bn
def isq (n:Nat):Nat:=(List.range (n+1)).foldl (fun r k=>if k * k≤n then max r k else r) 0
theorem lI (n:Nat):∀ m r0,r0 * r0≤n→let r:=(List.range m).foldl (fun r k=>if k * k≤n then max r k else r) r0
 r * r≤n∧r0≤r∧∀ k,k < m→k * k≤n→k≤r:=by
 intro m
 induction m with
 | zero=>intro r0 h;simp [h]
 | succ m ih =>
  intro r0 h;have hm:=ih r0 h;rw [List.range_succ,List.foldl_append];simp only [List.foldl_cons,List.foldl_nil];obtain ⟨h1,h2,h3⟩:=hm;by_cases hk:m * m≤n
  ·simp only [hk,if_true]
   refine ⟨?_,by omega,?_⟩
   ·rcases Nat.le_total ((List.range m).foldl (fun r k=>if k * k≤n then max r k else r) r0) m with hh | hh
    ·rw [Nat.max_eq_right hh];exact hk
    rw [Nat.max_eq_left hh];exact h1
   intro k hkm hkk;rcases Nat.lt_succ_iff_lt_or_eq.1 hkm with hlt | rfl
   ·have:=h3 k hlt hkk;omega
   omega
  simp only [hk,if_false];refine ⟨h1,h2,?_⟩;intro k hkm hkk;rcases Nat.lt_succ_iff_lt_or_eq.1 hkm with hlt | rfl
  ·exact h3 k hlt hkk
  exact absurd hkk hk
theorem ye (n:Nat):isq n * isq n≤n:=(lI n (n+1) 0 (by omega)).1
theorem yf (n:Nat):n < (isq n+1) * (isq n+1):=by
 have h:=(lI n (n+1) 0 (by omega)).2.2 (isq n+1);rcases Nat.lt_or_ge n ((isq n+1) * (isq n+1)) with hh | hh
 ·exact hh
 have h1:isq n+1≤(isq n+1) * (isq n+1):=Nat.le_mul_of_pos_left _ (by omega);have:=h (by omega) hh;unfold isq at this;omega
theorem yg {n r:Nat}(h1:r * r≤n) (h2:n < (r+1) * (r+1)):isq n=r:=by
 have a:=ye n;have b:=yf n;rcases Nat.lt_trichotomy (isq n) r with h | h | h
 ·have:(isq n+1) * (isq n+1)≤r * r:=Nat.mul_le_mul h h
  omega
 ·exact h
 have:(r+1) * (r+1)≤isq n * isq n:=Nat.mul_le_mul h h;omega

/-! ### greatest common divisors -/
theorem ln {a b:Nat}(ha:a % 2=0) (hb:b % 2=1):Nat.gcd (a / 2) b=Nat.gcd a b:=by
 have e1:a=2 * (a / 2):=by omega
 have hc:Nat.Coprime 2 b:=by
  unfold Nat.Coprime;rw [Nat.gcd_rec,hb];simp
 conv=>rhs;rw [e1]
 exact (Nat.Coprime.gcd_mul_left_cancel (a / 2) hc).symm
theorem j7 {a b:Nat}(h:b≤a):Nat.gcd (a - b) b=Nat.gcd a b:=by
 conv=>rhs;rw [← Nat.sub_add_cancel h]
 rw [Nat.gcd_add_self_left]
end Bn

namespace Bn
structure WD where
  neg:Bool
  mag:List Nat
def WD.ok (a:WD):Bool:=if a.mag=[] then !a.neg else wd a.mag (a.mag.length - 1) != 0
def WD.z (a:WD):Int:=if a.ok then (if a.neg then -(val a.mag:Int) else (val a.mag:Int)) else 0
def wh (z:Int):WD:=⟨decide (z < 0),am z.natAbs⟩

def WD.m (a:WD):List Nat:=if a.ok then a.mag else []
def WD.s (a:WD):Bool:=a.ok && a.neg
def sgn (b:Bool) (n:Nat):Int:=if b then -(n:Int) else n
theorem WD.z_eq (a:WD):a.z=sgn a.s (val a.m):=by
 unfold WD.z WD.s WD.m sgn;cases h:a.ok <;> simp [val]
structure RD where
  neg:Bool
  num:List Nat
  den:List Nat
def lJ (l:List Nat):Bool:=wd l (l.length - 1) != 0
def RD.ok (a:RD):Bool :=
  if a.num=[]∧a.den=[] then !a.neg else
    (a.num != [] && a.den != [] && lJ a.num && lJ a.den && Nat.gcd (val a.num) (val a.den) == 1)
def RD.n (a:RD):Int:=if a.ok && a.num != [] then (if a.neg then -(val a.num:Int) else (val a.num:Int)) else 0
def RD.d (a:RD):Nat:=if a.ok && a.num != [] then val a.den else 1
def RD.q (a:RD):Rat:=Rat.divInt a.n a.d
def rd (q:Rat):RD:=⟨decide (q.num < 0),am q.num.natAbs,if q.num=0 then [] else am q.den⟩

theorem cN {l:List Nat}(h:aO l):val l=0 ↔ l=[]:=by
 constructor
 ·intro h0;have:=dM h;rw [h0,av] at this;exact this.symm
 rintro rfl;rfl

theorem WD.ok_canon {a:WD}(hw:Wds a.mag) (h:a.ok=true):aO a.mag:=by
 rw [lG hw];unfold WD.ok at h;by_cases h0:a.mag=[]
 ·left;simp [h0]
 right;simpa [h0] using h
theorem WD.ok_iff {a:WD}(hw:Wds a.mag):a.ok=true ↔ aO a.mag∧(a.mag=[]→a.neg=false):=by
 constructor
 ·intro h
  refine ⟨WD.ok_canon hw h,fun h0=>?_⟩;unfold WD.ok at h;simpa [h0] using h
 rintro ⟨hc,h0⟩;unfold WD.ok;by_cases he:a.mag=[]
 ·simp [he,h0 he]
 simp [he,hc.last he]
theorem zF (z:Int):(wh z).ok=true:=by
 rw [WD.ok_iff (dL _)];refine ⟨dc _,fun h=>?_⟩;have:z.natAbs=0:=aP.1 h;have:z=0:=by omega
 subst this;rfl
theorem Be (z:Int):(wh z).z=z:=by
 unfold WD.z;rw [if_pos (zF z)];unfold wh;simp only [ag,decide_eq_true_eq];split <;> omega
theorem tl (b:Bool) (n:Nat):wh (sgn b n)=⟨b && decide (0 < (am n).length),am n⟩:=by
 have e:decide (0 < (am n).length)=decide (n≠0):=by
  rw [decide_eq_decide,List.length_pos_iff,Ne,aP]
 rw [e];unfold wh sgn;cases b
 ·simp
 simp only [if_true,Bool.true_and];rw [show (-(n:Int)).natAbs=n by omega];congr 1;rw [decide_eq_decide];omega
theorem WD.canon_m {a:WD}(hw:Wds a.mag):aO a.m:=by
 unfold WD.m;cases h:a.ok
 ·simp [rH]
 simpa using WD.ok_canon hw h
theorem fX {l:List Nat}(hw:Wds l) (hne:l≠[]):lJ l=true ↔ aO l:=by
 rw [lG hw];unfold lJ;have:l.length≠0:=fun e=>hne (List.eq_nil_of_length_eq_zero e)
 simp [this]

theorem RD.ok_cases {a:RD}(hn:Wds a.num) (hd:Wds a.den) (h:a.ok=true) :
 (a.num=[]∧a.den=[]∧a.neg=false)∨(a.num≠[]∧a.den≠[]∧aO a.num∧aO a.den∧Nat.gcd (val a.num) (val a.den)=1):=by
 unfold RD.ok at h;by_cases h0:a.num=[]∧a.den=[]
 ·left
  rw [if_pos h0] at h;exact ⟨h0.1,h0.2,by simpa using h⟩
 right;rw [if_neg h0] at h;simp only [Bool.and_eq_true,bne_iff_ne,beq_iff_eq] at h;obtain ⟨⟨⟨⟨h1,h2⟩,h3⟩,h4⟩,h5⟩:=h;exact ⟨h1,h2,(fX hn h1).1 h3,(fX hd h2).1 h4,h5⟩
theorem RD.d_pos {a:RD}(hn:Wds a.num) (hd:Wds a.den):0 < a.d:=by
 unfold RD.d;split
 ·rename_i h
  simp only [Bool.and_eq_true,bne_iff_ne] at h;rcases RD.ok_cases hn hd h.1 with ⟨h0,_⟩ | ⟨_,h2,_,h4,_⟩
  ·exact absurd h0 h.2
  exact Nat.pos_of_ne_zero fun e=>h2 ((cN h4).1 e)
 omega
theorem RD.cop {a:RD}(hn:Wds a.num) (hd:Wds a.den):Nat.gcd a.n.natAbs a.d=1:=by
 unfold RD.n RD.d;by_cases h:(a.ok && a.num != [])=true
 ·simp only [h,if_true]
  simp only [Bool.and_eq_true,bne_iff_ne] at h;rcases RD.ok_cases hn hd h.1 with ⟨h0,_⟩ | ⟨_,h2,_,h4,h5⟩
  ·exact absurd h0 h.2
  split
  ·simpa using h5
  simpa using h5
 simp [h]
theorem RD.q_num {a:RD}(hn:Wds a.num) (hd:Wds a.den):a.q.num=a.n:=by
 have hp:=RD.d_pos hn hd;unfold RD.q;rw [Rat.num_divInt]
 have:(Int.gcd (a.d:Int) a.n)=1:=by
  rw [Int.gcd_comm];have:=RD.cop hn hd;unfold Int.gcd;simpa using this
 rw [this,Int.sign_eq_one_of_pos (by omega)];simp
theorem RD.q_den {a:RD}(hn:Wds a.num) (hd:Wds a.den):a.q.den=a.d:=by
 have hp:=RD.d_pos hn hd;unfold RD.q;rw [Rat.den_divInt]
 have:(Int.gcd (a.d:Int) a.n)=1:=by
  rw [Int.gcd_comm];have:=RD.cop hn hd;unfold Int.gcd;simpa using this
 rw [this,if_neg (by omega)];simp

theorem yh (q:Rat):Wds (rd q).num∧Wds (rd q).den:=by
 refine ⟨dL _,?_⟩;unfold rd;simp only;split
 ·simp [Wds]
 exact dL _
theorem tm (q:Rat):(rd q).ok=true:=by
 unfold RD.ok;by_cases h:q.num=0
 ·have e:rd q=⟨false,[],[]⟩:=by unfold rd;simp [h,av]
  rw [e];simp
 have hn:(rd q).num=am q.num.natAbs:=rfl;have hd:(rd q).den=am q.den:=by unfold rd;simp [h]
 have h1:am q.num.natAbs≠[]:=fun e=>h (by have:=aP.1 e;omega)
 have h2:am q.den≠[]:=fun e=>q.den_nz (aP.1 e)
 rw [hn,hd,if_neg (by simp [h1])];simp only [Bool.and_eq_true,bne_iff_ne,beq_iff_eq,ag];exact ⟨⟨⟨⟨h1,h2⟩,(fX (dL _) h1).2 (dc _)⟩,(fX (dL _) h2).2 (dc _)⟩,q.reduced⟩
theorem Bf (q:Rat):(rd q).n=q.num:=by
 unfold RD.n;by_cases h:q.num=0
 ·have e:rd q=⟨false,[],[]⟩:=by unfold rd;simp [h,av]
  rw [e];simp [h]
 have h1:(rd q).num≠[]:=fun e=>h (by have:=aP.1 e;omega)
 rw [if_pos (by simp [tm,h1])];unfold rd;simp only [ag,decide_eq_true_eq];split <;> omega
theorem Bg (q:Rat):(rd q).d=q.den:=by
 unfold RD.d;by_cases h:q.num=0
 ·have e:rd q=⟨false,[],[]⟩:=by unfold rd;simp [h,av]
  have:q=0:=Rat.num_eq_zero.1 h;rw [e];simp [this]
 have h1:(rd q).num≠[]:=fun e=>h (by have:=aP.1 e;omega)
 rw [if_pos (by simp [tm,h1])];unfold rd;simp [h,ag]
theorem yi (q:Rat):(rd q).q=q:=by
 unfold RD.q;rw [Bf,Bg];exact Rat.num_divInt_den q
theorem fH {a:RD}(hn:Wds a.num) (hd:Wds a.den) (h:a.ok=true):rd a.q=a:=by
 have e1:=RD.q_num hn hd;have e2:=RD.q_den hn hd;unfold rd;rw [e1,e2];rcases RD.ok_cases hn hd h with ⟨h0,h1,h2⟩ | ⟨h1,h2,h3,h4,h5⟩
 ·cases a with
  | mk neg num den =>
   simp only at h0 h1 h2;subst h0;subst h1;subst h2;simp [RD.n,av]
 cases a with
 | mk neg num den =>
  simp only at *;have hk:(RD.ok ⟨neg,num,den⟩ && num != [])=true:=by simp [h,h1]
  have hv:val num≠0:=fun e=>h1 ((cN h3).1 e)
  have en:RD.n ⟨neg,num,den⟩=if neg then -(val num:Int) else (val num:Int):=by unfold RD.n;simp only [hk,if_true]
  have ed:RD.d ⟨neg,num,den⟩=val den:=by unfold RD.d;simp only [hk,if_true]
  rw [en,ed]
  cases neg with
  | true =>
   simp only [if_true];rw [if_neg (by omega),show (-(val num:Int)).natAbs=val num by omega,dM h3,dM h4,decide_eq_true (by omega)]
  | false =>
   simp only [Bool.false_eq_true,if_false];rw [if_neg (by omega),show ((val num:Int)).natAbs=val num by omega,dM h3,dM h4,decide_eq_false (by omega)]

/-! ### the size of a fraction -/
def Sz (q:Rat) (k:Nat):Prop:=q.num.natAbs < 4294967296 ^ k∧q.den < 4294967296 ^ k
theorem Sz.mono {q:Rat}{j k:Nat}(h:Sz q j) (hk:j≤k):Sz q k :=
 ⟨Nat.lt_of_lt_of_le h.1 (Nat.pow_le_pow_right (by omega) hk),Nat.lt_of_lt_of_le h.2 (Nat.pow_le_pow_right (by omega) hk)⟩
theorem lK {n d:Int}{k:Nat}(hn:n.natAbs < 4294967296 ^ k) (hd:d.natAbs < 4294967296 ^ k) (hk:0 < k):Sz (Rat.divInt n d) k:=by
 have hp:1 < 4294967296 ^ k:=Nat.one_lt_pow (by omega) (by omega);constructor
 ·rw [Rat.num_divInt]
  refine Nat.lt_of_le_of_lt ?_ hn;rw [Int.natAbs_ediv_of_dvd (Int.dvd_mul_of_dvd_right (Int.gcd_dvd_right _ _)),Int.natAbs_mul];refine Nat.le_trans (Nat.div_le_self _ _) ?_;rcases Int.lt_trichotomy d 0 with h | h | h
  ·rw [Int.sign_eq_neg_one_of_neg h];simp
  ·subst h;simp
  rw [Int.sign_eq_one_of_pos h];simp
 rw [Rat.den_divInt];split
 ·omega
 exact Nat.lt_of_le_of_lt (Nat.div_le_self _ _) hd
end Bn

namespace Bn
theorem jy {n d:Int}(hn:n≠0) (hd:0 < d) :
 rd (Rat.divInt n d)=⟨decide (n < 0),am (n.natAbs / Nat.gcd n.natAbs d.natAbs),am (d.natAbs / Nat.gcd n.natAbs d.natAbs)⟩:=by
 have hg:Int.gcd d n=Nat.gcd n.natAbs d.natAbs:=by rw [Int.gcd_comm];rfl
 have hgp:0 < Nat.gcd n.natAbs d.natAbs:=Nat.gcd_pos_of_pos_right _ (by omega);have hdn:(Nat.gcd n.natAbs d.natAbs:Int) ∣ n:=by rw [← hg];exact Int.gcd_dvd_right ..
 have e1:(Rat.divInt n d).num=n / (Nat.gcd n.natAbs d.natAbs:Int):=by
  rw [Rat.num_divInt,hg,Int.sign_eq_one_of_pos hd,Int.one_mul]
 have e2:(Rat.divInt n d).den=d.natAbs / Nat.gcd n.natAbs d.natAbs:=by
  rw [Rat.den_divInt,hg,if_neg (by omega)]
 obtain ⟨k,hk⟩:=hdn
 have hk2:n / (Nat.gcd n.natAbs d.natAbs:Int)=k:=by
  generalize Nat.gcd n.natAbs d.natAbs=g at hk hgp ⊢;rw [hk];exact Int.mul_ediv_cancel_left _ (by omega)
 have hk0:k≠0:=by rintro rfl;simp at hk;exact hn hk
 have hneg:(k < 0) ↔ (n < 0):=by
  constructor
  ·intro h
   have:=Int.mul_neg_of_pos_of_neg (show (0:Int) < (Nat.gcd n.natAbs d.natAbs:Int) by omega) h;omega
  intro h;rcases (show k < 0∨0≤k by omega) with h1 | h1
  ·exact h1
  have:=Int.mul_nonneg (show (0:Int)≤(Nat.gcd n.natAbs d.natAbs:Int) by omega) h1;omega
 unfold rd;rw [e1,e2,hk2,if_neg hk0]
 have e3:k.natAbs=n.natAbs / Nat.gcd n.natAbs d.natAbs:=by
  have:n.natAbs=Nat.gcd n.natAbs d.natAbs * k.natAbs:=by
   conv=>lhs;rw [hk]
   rw [Int.natAbs_mul];simp
  exact (Nat.div_eq_of_eq_mul_right hgp this).symm
 rw [e3];congr 1;simp [hneg]
theorem mp:rd 0=⟨false,[],[]⟩:=by unfold rd;simp [av]
theorem ko (n d:Int) (h:d≠0):Rat.divInt (-n) (-d)=Rat.divInt n d:=by
 rw [Rat.divInt_eq_divInt_iff (by omega) h]
 grind
theorem tp (q:Rat):q=Rat.divInt q.num q.den:=(Rat.num_divInt_den q).symm
theorem jz (q:Rat):(q.den:Int)≠0:=by have:=q.den_nz;omega
theorem xQ (a b:Rat):a+b=Rat.divInt (a.num * b.den+b.num * a.den) (a.den * b.den):=by
 conv=>lhs;rw [tp a,tp b]
 exact Rat.divInt_add_divInt _ _ (jz a) (jz b)
theorem zG (a b:Rat):(a.num * b.den < b.num * a.den ↔ a < b)∧(a.num * b.den=b.num * a.den ↔ a=b):=by
 refine ⟨(Rat.lt_iff a b).symm,?_⟩;constructor
 ·intro h
  rw [tp a,tp b];exact (Rat.divInt_eq_divInt_iff (jz a) (jz b)).2 h
 rintro rfl;rfl

/-! ### sizes -/
theorem dj {a b:Int}{i j:Nat}(ha:a.natAbs < 4294967296 ^ i) (hb:b.natAbs < 4294967296 ^ j):(a * b).natAbs < 4294967296 ^ (i+j):=by
 rw [Int.natAbs_mul,Nat.pow_add];exact Nat.mul_lt_mul'' ha hb
theorem gW {a b:Int}{i:Nat}(ha:a.natAbs < 4294967296 ^ i) (hb:b.natAbs < 4294967296 ^ i):(a+b).natAbs < 4294967296 ^ (i+1):=by
 rw [Nat.pow_succ];omega
theorem yj {a b:Rat}{i j:Nat}(ha:Sz a i) (hb:Sz b j):Sz (a+b) (i+j+1):=by
 rw [xQ];have h1:=dj ha.1 (b:=(b.den:Int)) (by simpa using hb.2);have h2:=dj hb.1 (b:=(a.den:Int)) (by simpa using ha.2);rw [Nat.add_comm j i] at h2;have h3:=dj (a:=(a.den:Int)) (b:=(b.den:Int)) (by simpa using ha.2) (by simpa using hb.2);exact lK (gW h1 h2) (Nat.lt_of_lt_of_le h3 (Nat.pow_le_pow_right (by omega) (by omega))) (by omega)
theorem yk {z:Int}{k:Nat}(h:z.natAbs < 4294967296 ^ k) (hk:0 < k):Sz (z:Rat) k:=by
 have hp:1 < 4294967296 ^ k:=Nat.one_lt_pow (by omega) (by omega);exact ⟨by simpa using h,by simpa using hp⟩
end Bn

/- Words, integers and fractions in memory: what a value of the program reads as; what keeps it so. -/
namespace Go.Proofs.YtndhgcfajlalhaaGreatDoor
open Go Go.RowKit Bn
attribute [local go_sem ↓] Go.wp_at_zero Go.wp_at_succ

def vZ (p:Prop):Prop:=p
def KT (t:TypeId):Bool:=!(t == 134
  || t == 54
  )
theorem yl:KT 173=true:=by decide
def rI:Value→Bool
  | .bool _=>true
  | .slice _ _ _=>true
  | _=>false
def noU (c:Array Value):Bool:=c.toList.all rI
def eS (w:World) (g:Nat) (cur:Array Value) (fr:Nat × Nat):Prop:=∃ t,(KT t=true∨noU cur=false)∧w.heap[g]?=some (.cells cur t fr)
theorem eS.u32 {w:World}{g:Nat}{cur:Array Value}{fr:Nat × Nat}(h:w.heap[g]?=some (.cells cur 173 fr)):eS w g cur fr:=⟨_,.inl yl,h⟩
class NoU (c:Array Value):Prop where
 h:noU c=true
instance Bb:NoU (List.toArray []):=⟨rfl⟩
instance zH (b:Bool) (l:List Value) [x:NoU (List.toArray l)]:NoU (List.toArray (.bool b :: l)):=⟨x.h⟩
instance zE (A:Option Addr) (n c:Nat) (l:List Value) [x:NoU (List.toArray l)]:NoU (List.toArray (.slice A n c :: l)):=⟨x.h⟩
theorem eS.lt {w:World}{g:Nat}{cur:Array Value}{fr:Nat × Nat}(h:eS w g cur fr):g < w.heap.size:=by obtain ⟨t,_,h⟩:=h;exact lt_of_block h
theorem eS.same {w w':World}{g:Nat}{cur:Array Value}{fr:Nat × Nat}(h:eS w g cur fr) (e:w'.heap[g]?=w.heap[g]?):eS w' g cur fr:=by obtain ⟨t,ht,h⟩:=h;exact ⟨t,ht,e.trans h⟩
theorem eS.cell {w:World}{g:Nat}{cur:Array Value}{fr:Nat × Nat}(h:eS w g cur fr) (o:Nat):w.cell? ⟨g,o,none⟩=cur[o]?:=by obtain ⟨t,ht,h⟩:=h;simp [World.cell?,h]
def Kp (w w':World):Prop:=∀ (g:Nat) (cur:Array Value) (fr:Nat × Nat),eS w g cur fr→eS w' g cur fr
theorem Kp.refl (w:World):Kp w w:=fun _ _ _ h=>h
theorem Kp.trans {a b c:World}(h:Kp a b) (k:Kp b c):Kp a c:=fun g cur fr x=>k g cur fr (h g cur fr x)
theorem Kp.below {a b c:World}(h:Kp a b) (k:Below b.heap.size b c):Kp a c:=fun g cur fr x=>(h g cur fr x).same (k.block g (h g cur fr x).lt)
theorem Kp.alloc {a b:World}(h:Kp a b) (o:Obj):Kp a (b.alloc o):=fun g cur fr x=>(h g cur fr x).same (Below.heap_alloc _ _ _ (h g cur fr x).lt)
theorem Kp.drew {a b:World}(h:Kp a b):Kp a b.drew:=h
theorem Kp.drewN {a b:World}(h:Kp a b) (n:Nat):Kp a (b.drewN n):=h
theorem eS.ne {w:World}{g g':Nat}{cur c:Array Value}{t:TypeId}{fr fr':Nat × Nat}(x:eS w g cur fr) (hp:w.heap[g']?=some (.cells c t fr')) (ht:KT t=false) (hc:noU c=true):g≠g':=by
 rintro rfl;obtain ⟨t',h0,h1⟩:=x;rw [hp] at h1;injection h1 with h1;injection h1 with e1 e2;rw [← e1,← e2,hc,ht] at h0;rcases h0 with h0 | h0 <;> cases h0
theorem Kp.set {a b:World}(h:Kp a b) {p:Addr}{c:Array Value}{t:TypeId}{fr:Nat × Nat}(hp:b.heap[p.block]?=some (.cells c t fr)) (ht:KT t=false) (hc:noU c=true) (u:Value):Kp a (b.setCell p u):=fun g cur fr' x=>by
 refine (h g cur fr' x).same ?_;rw [Below.heap_setCell];exact (h g cur fr' x).ne hp ht hc

def Box (w:World) (g:Nat) (t:TypeId):Prop:=∃ c fr,w.heap[g]?=some (.cells c t fr)∧noU c=true
theorem Box.new (w:World) (c:Array Value) (t:TypeId) (fr:Nat × Nat) (hc:noU c=true:=by rfl):Box (w.alloc (.cells c t fr)) w.heap.size t:=⟨c,fr,heap_alloc_new w _,hc⟩
theorem Box.alloc {w:World}{g:Nat}{t:TypeId}(h:Box w g t) (o:Obj):Box (w.alloc o) g t:=by
 obtain ⟨c,fr,h,hc⟩:=h;exact ⟨c,fr,(Below.heap_alloc w o g (lt_of_block h)).trans h,hc⟩
theorem Box.drew {w:World}{g:Nat}{t:TypeId}(h:Box w g t):Box w.drew g t:=h
theorem Box.drewN {w:World}{g:Nat}{t:TypeId}(h:Box w g t) (n:Nat):Box (w.drewN n) g t:=h
theorem we {c:Array Value}(hc:noU c=true) {u:Value}(hu:rI u=true) (i:Nat):noU (c.setIfInBounds i u)=true:=by
 unfold noU at hc ⊢;rw [Array.toList_setIfInBounds,List.all_eq_true];intro x hx;rcases List.mem_or_eq_of_mem_set hx with hx | rfl
 ·exact List.all_eq_true.1 hc x hx
 exact hu
theorem Box.set {w:World}{g:Nat}{t:TypeId}(h:Box w g t) (p:Addr) (u:Value) (hu:rI u=true:=by rfl):Box (w.setCell p u) g t:=by
 obtain ⟨c,fr,h,hc⟩:=h;by_cases e:g=p.block
 ·subst e
  refine ⟨if p.spot.isSome then c else c.setIfInBounds p.off u,fr,by simp [World.setCell,Array.getElem?_modify,h],?_⟩;split
  ·exact hc
  exact we hc hu _
 exact ⟨c,fr,(Below.heap_setCell w p u g e).trans h,hc⟩
theorem Box.below {w w1:World}{g:Nat}{t:TypeId}(h:Box w g t) (hb:Below w.heap.size w w1):Box w1 g t:=by
 obtain ⟨c,fr,h,hc⟩:=h;exact ⟨c,fr,(hb.block g (lt_of_block h)).trans h,hc⟩
theorem Box.lt {w:World}{g:Nat}{t:TypeId}(h:Box w g t):g < w.heap.size:=by
 obtain ⟨c,fr,h,_⟩:=h;exact lt_of_block h
theorem eS.neB {w:World}{g g':Nat}{cur:Array Value}{t:TypeId}{fr:Nat × Nat}(x:eS w g cur fr) (h:Box w g' t) (ht:KT t=false):g≠g':=by
 obtain ⟨c,fr',h,hc⟩:=h;exact x.ne h ht hc
theorem Kp.setB {a b:World}(h:Kp a b) {p:Addr}{t:TypeId}(hp:Box b p.block t) (ht:KT t=false) (u:Value):Kp a (b.setCell p u):=by
 obtain ⟨c,fr,hp,hc⟩:=hp;exact h.set hp ht hc u
theorem Kp.sb {a b:World}(h:Kp a b) (g i:Nat) {t:TypeId}(hp:Box b g t) (ht:KT t=false) (u:Value):Kp a (b.setCell ⟨g,i,none⟩ u):=h.setB (p:=⟨g,i,none⟩) hp ht u
def Wd (w:World) (A:Option Addr) (n c:Nat) (l:List Nat):Prop :=
  Wds l∧n=l.length∧n≤c∧(0 < n→∃ (g o:Nat) (cur:Array Value) (fr:Nat × Nat),A=some ⟨g,o,none⟩∧eS w g cur fr∧∀ i,i < n→cur[o+i]?=some (.int .u32 (wd l i:Nat)))
theorem Wd.keep {w w':World}{A:Option Addr}{n c:Nat}{l:List Nat}(h:Wd w A n c l) (k:Kp w w'):Wd w' A n c l :=
 ⟨h.1,h.2.1,h.2.2.1,fun hn=>by
  obtain ⟨g,o,cur,fr,e,hb,hc⟩:=h.2.2.2 hn
  exact ⟨g,o,cur,fr,e,k _ _ _ hb,hc⟩⟩
theorem Wd.nil_ (w:World):Wd w none 0 0 []:=⟨by simp [Wds],rfl,Qr,fun h=>absurd h (by omega)⟩
theorem Wd.at_ {w:World}{A:Option Addr}{n c:Nat}{l:List Nat}(h:Wd w A n c l) (hn:0 < n):∃ g o,A=some ⟨g,o,none⟩∧∀ i,i < n→w.cell? ⟨g,o+i,none⟩=some (.int .u32 (wd l i:Nat)):=by
 obtain ⟨g,o,cur,fr,e,hb,hc⟩:=h.2.2.2 hn;exact ⟨g,o,e,fun i hi=>(hb.cell _).trans (hc i hi)⟩
theorem Wd.at2 {w:World}{A:Option Addr}{n c:Nat}{l:List Nat}(h:Wd w A n c l) (hn:0 < n):∃ g o,A=some ⟨g,o,none⟩∧g < w.heap.size∧∀ i,i < n→w.cell? ⟨g,o+i,none⟩=some (.int .u32 (wd l i:Nat)):=by
 obtain ⟨g,o,cur,fr,e,hb,hc⟩:=h.2.2.2 hn;exact ⟨g,o,e,hb.lt,fun i hi=>(hb.cell _).trans (hc i hi)⟩
theorem Wd.lt {w:World}{A:Option Addr}{n c:Nat}{l:List Nat}(h:Wd w A n c l) (i:Nat):wd l i < 4294967296:=bF h.1 i

def IsW (w:World) (v:Value) (a:WD):Prop:=∃ A n c,v=.agg #[.bool a.neg,.slice A n c]∧Wd w A n c a.mag
def IsQ (w:World) (v:Value) (a:RD):Prop:=∃ A n c A' n' c',v=.agg #[.bool a.neg,.slice A n c,.slice A' n' c']∧Wd w A n c a.num∧Wd w A' n' c' a.den
theorem IsW.keep {w w':World}{v:Value}{a:WD}(h:IsW w v a) (k:Kp w w'):IsW w' v a:=by
 obtain ⟨A,n,c,e,h1⟩:=h;exact ⟨A,n,c,e,h1.keep k⟩
theorem IsQ.keep {w w':World}{v:Value}{a:RD}(h:IsQ w v a) (k:Kp w w'):IsQ w' v a:=by
 obtain ⟨A,n,c,A',n',c',e,h1,h2⟩:=h;exact ⟨A,n,c,A',n',c',e,h1.keep k,h2.keep k⟩

def fm (w:World) (l:List Nat) (e:Ending) (w':World):Prop:=∃ A n c,e=.returned (.slice A n c)∧Wd w' A n c l∧Below w.heap.size w w'
def aB (w:World) (v:Value) (e:Ending) (w':World):Prop:=e=.returned v∧Below w.heap.size w w'
def ia (w:World) (a:WD) (e:Ending) (w':World):Prop:=∃ A n c,e=.returned (.agg #[.bool a.neg,.slice A n c])∧Wd w' A n c a.mag∧Below w.heap.size w w'
theorem cQ {w w':World}{x y:Bool}(h:x=y) (hb:Below w.heap.size w w'):aB w (.bool y) (.returned (.bool x)) w':=⟨by rw [h],hb⟩
theorem cJ {w w':World}{k:IntKind}{x y:Int}(h:x=y) (hb:Below w.heap.size w w'):aB w (.int k y) (.returned (.int k x)) w':=⟨by rw [h],hb⟩
theorem bS {W w1:World}(hb:Below W.heap.size W w1):(∀ b o,b < W.heap.size→w1.cell? ⟨b,o,none⟩=W.cell? ⟨b,o,none⟩)∧(∀ b o,b < W.heap.size→w1.frozen? ⟨b,o,none⟩=W.frozen? ⟨b,o,none⟩) :=
 ⟨fun b o h=>hb.cell (p:=⟨b,o,none⟩) h,fun b o h=>hb.frozen (p:=⟨b,o,none⟩) h⟩
theorem af {B:Nat}{a w:World}(h:Below B a w) (n:Nat):Below B a (w.drewN n):=⟨h.os,h.tape,h.output,h.size,h.block⟩
def Blk (w:World) (g:Nat) (t:TypeId) (cs:Array Value):Prop:=w.heap[g]?=some (.cells cs t (0,0))
section
variable {w w':World}{g:Nat}{t:TypeId}{cs:Array Value}
theorem Blk.lt (h:Blk w g t cs):g < w.heap.size:=lt_of_block h
theorem Blk.cell (h:Blk w g t cs) (i:Nat):w.cell? ⟨g,i,none⟩=cs[i]?:=by unfold Blk at h;simp [World.cell?,h]
theorem Blk.frozen (h:Blk w g t cs) (i:Nat):w.frozen? ⟨g,i,none⟩=false:=by unfold Blk at h;simp [World.frozen?,h]
theorem Blk.new (w:World) (t:TypeId) (cs:Array Value):Blk (w.alloc (.cells cs t)) w.heap.size t cs:=heap_alloc_new w _
theorem Blk.drew (h:Blk w g t cs):Blk w.drew g t cs:=h
theorem Blk.drewN (h:Blk w g t cs) (n:Nat):Blk (w.drewN n) g t cs:=h
theorem Blk.alloc (h:Blk w g t cs) (o:Obj):Blk (w.alloc o) g t cs:=(Below.heap_alloc w o g h.lt).trans h
theorem Blk.set_ (h:Blk w g t cs) (i:Nat) (u:Value):Blk (w.setCell ⟨g,i,none⟩ u) g t (cs.setIfInBounds i u):=by
 unfold Blk at h ⊢;simp [World.setCell,Array.getElem?_modify,h]
theorem Blk.far (h:Blk w g t cs) {p:Addr}(hp:g≠p.block) (u:Value):Blk (w.setCell p u) g t cs:=(Below.heap_setCell w p u g hp).trans h
theorem Blk.below {B:Nat}(h:Blk w g t cs) (hb:Below B w w') (hg:g < B):Blk w' g t cs:=(hb.block g hg).trans h
theorem Blk.b (h:Blk w g t cs) {v:World}(hb:Below w.heap.size w v):Blk v g t cs:=h.below hb h.lt
theorem Blk.fr (h:Blk w g t cs) (b i:Nat) (hp:g≠b) (u:Value):Blk (w.setCell ⟨b,i,none⟩ u) g t cs:=h.far (p:=⟨b,i,none⟩) hp u
end
def cellsOf (l:List Nat):Array Value:=(l.map fun x=>Value.int .u32 (x:Nat)).toArray
theorem az {l:List Nat}{i:Nat}(h:i < l.length):(cellsOf l)[i]?=some (.int .u32 (wd l i:Nat)):=by
 simp [cellsOf,wd,h]
theorem nC (l:List Nat) (i x:Nat):(cellsOf l).setIfInBounds i (.int .u32 (x:Nat))=cellsOf (l.set i x):=by
 simp [cellsOf,List.map_set]
theorem Blk.setW {w:World}{g:Nat}{l:List Nat}(h:Blk w g 173 (cellsOf l)) (i:Nat) (z:Int) (x:Nat) (hz:z=x):Blk (w.setCell ⟨g,i,none⟩ (.int .u32 z)) g 173 (cellsOf (l.set i x)):=by
 subst hz;rw [← nC];exact h.set_ i _
theorem Blk.wdN {w:World}{g n:Nat}{l:List Nat}(h:Blk w g 173 (cellsOf l)) (hw:Wds l) (hn:l.length=n):Wd w (some ⟨g,0,none⟩) n n l:=by
 subst hn;exact ⟨hw,rfl,Qr,fun _=>⟨g,0,_,_,rfl,eS.u32 h,fun i hi=>by rw [Nat.zero_add];exact az hi⟩⟩
theorem Blk.wd_ {w:World}{g:Nat}{l:List Nat}(h:Blk w g 173 (cellsOf l)) (hw:Wds l):Wd w (some ⟨g,0,none⟩) l.length l.length l :=
 ⟨hw,rfl,Qr,fun _=>⟨g,0,_,_,rfl,eS.u32 h,fun i hi=>by rw [Nat.zero_add];exact az hi⟩⟩

def words (l:List Nat):List Value:=l.map fun x=>Value.int .u32 (x:Nat)
theorem jA {l:List Nat}{i:Nat}(h:i < l.length):(words l)[i]?=some (.int .u32 (wd l i:Nat)):=by
 simp [words,wd,h]
theorem cD (l:List Nat):(words l).length=l.length:=by simp [words]
theorem eT (l:List Nat):∀ u∈words l,u.oneCell'=true:=by
 intro u hu;simp only [words,List.mem_map] at hu;obtain ⟨x,_,rfl⟩:=hu;rfl
theorem Wd.of_own {w:World}{base n cap:Nat}{A:Option Addr}{l:List Nat}(h:w.ownsRow base 173 1 (.slice A n cap) n (words l)) (hw:Wds l):Wd w A n cap l:=by
 have hlen:n=l.length:=by have:=h.1;rw [cD] at this;omega
 refine ⟨hw,hlen,?_,fun hn=>?_⟩
 ·rcases h.2 with ⟨e,rfl⟩ | ⟨g,c,cur,e,_,_,hc,_⟩
  ·omega
  injection e with _ _ e;omega
 rcases h.2 with ⟨e,h0⟩ | ⟨g,c,cur,e,_,hg,hc,_,hs,ht⟩
 ·omega
 injection e with e1 _ e2;refine ⟨g,0,cur,_,e1,eS.u32 hg,fun i hi=>?_⟩;have h1:(words l)[i]?=some (.int .u32 (wd l i:Nat)):=jA (by omega);rw [← ht,List.getElem?_take,if_pos (by omega)] at h1;rw [Nat.zero_add];simpa using h1
theorem Wd.news {w:World}{g o n c:Nat}{l:List Nat}(h:Wd w (some ⟨g,o,none⟩) n c l) (hn:0 < n) {k:Nat}(hk:k≤n) :
 ∀ j u,(words (l.take k))[j]?=some u→w.cell? ((⟨g,o,none⟩:Addr).add j)=some u:=by
 intro j u hu;obtain ⟨g',o',e,hc⟩:=h.at_ hn;injection e with e;injection e with e1 e2;subst e1;subst e2;have hj:j < (words (l.take k)).length:=(List.getElem?_eq_some_iff.1 hu).1;have hlen:=h.2.1;rw [cD,List.length_take] at hj;have h1:(words (l.take k))[j]?=some (.int .u32 (wd (l.take k) j:Nat)):=jA (by rw [List.length_take];exact hj);rw [h1] at hu;injection hu with hu;rw [← hu];have h2:wd (l.take k) j=wd l j:=by simp [wd,List.getD,show j < k by omega]
 rw [h2,← hc j (by omega)];unfold Addr.add;by_cases hj0:j=0
 ·subst hj0;simp
 simp [hj0]
theorem Wds.take {l:List Nat}(h:Wds l) (k:Nat):Wds (l.take k):=fun x hx=>h x (List.mem_of_mem_take hx)

theorem jB {w w':World}{b:Bool}{A:Option Addr}{n c:Nat}{a:WD}(hb:b=a.neg) (h:Wd w' A n c a.mag) (hbl:Below w.heap.size w w'):ia w a (.returned (.agg #[.bool b,.slice A n c])) w' :=
 ⟨A,n,c,by rw [hb],h,hbl⟩

theorem Blk.wdT {w:World}{g n c:Nat}{l:List Nat}(h:Blk w g 173 (cellsOf l)) (hw:Wds l) (hn:n≤l.length) (hc:n≤c):Wd w (some ⟨g,0,none⟩) n c (l.take n):=by
 refine ⟨Wds.take hw n,by rw [List.length_take];omega,hc,fun _=>⟨g,0,_,_,rfl,eS.u32 h,fun i hi=>?_⟩⟩;rw [Nat.zero_add,az (by omega)];have:wd (l.take n) i=wd l i:=by simp [wd,List.getD,hi]
 rw [this]
theorem Blk.grown {w w':World}{g t:Nat}{cs:Array Value}{row:Option Nat}(h:Blk w g t cs) (hb:w.grownBy w' row) (hg:some g≠row):Blk w' g t cs:=(hb.block g h.lt hg).trans h
/-! ### All the cells of a block at once, and where it lies -/
theorem Blk.c2 {w:World}{g t:Nat}{a0 a1:Value}(h:Blk w g t #[a0,a1]):w.cell? ⟨g,0,none⟩=some a0∧w.cell? ⟨g,1,none⟩=some a1:=⟨h.cell 0,h.cell 1⟩
theorem Blk.f2 {w:World}{g t:Nat}{a0 a1:Value}(h:Blk w g t #[a0,a1]):w.frozen? ⟨g,0,none⟩=false∧w.frozen? ⟨g,1,none⟩=false:=⟨h.frozen 0,h.frozen 1⟩
theorem Blk.c3 {w:World}{g t:Nat}{a0 a1 a2:Value}(h:Blk w g t #[a0,a1,a2]):w.cell? ⟨g,0,none⟩=some a0∧w.cell? ⟨g,1,none⟩=some a1∧w.cell? ⟨g,2,none⟩=some a2:=⟨h.cell 0,h.cell 1,h.cell 2⟩
theorem Blk.f3 {w:World}{g t:Nat}{a0 a1 a2:Value}(h:Blk w g t #[a0,a1,a2]):w.frozen? ⟨g,0,none⟩=false∧w.frozen? ⟨g,1,none⟩=false∧w.frozen? ⟨g,2,none⟩=false:=⟨h.frozen 0,h.frozen 1,h.frozen 2⟩
theorem Blk.c4 {w:World}{g t:Nat}{a0 a1 a2 a3:Value}(h:Blk w g t #[a0,a1,a2,a3]):w.cell? ⟨g,0,none⟩=some a0∧w.cell? ⟨g,1,none⟩=some a1∧w.cell? ⟨g,2,none⟩=some a2∧w.cell? ⟨g,3,none⟩=some a3:=⟨h.cell 0,h.cell 1,h.cell 2,h.cell 3⟩
theorem Blk.f4 {w:World}{g t:Nat}{a0 a1 a2 a3:Value}(h:Blk w g t #[a0,a1,a2,a3]):w.frozen? ⟨g,0,none⟩=false∧w.frozen? ⟨g,1,none⟩=false∧w.frozen? ⟨g,2,none⟩=false∧w.frozen? ⟨g,3,none⟩=false:=⟨h.frozen 0,h.frozen 1,h.frozen 2,h.frozen 3⟩
theorem Blk.c6 {w:World}{g t:Nat}{a0 a1 a2 a3 a4 a5:Value}(h:Blk w g t #[a0,a1,a2,a3,a4,a5]):w.cell? ⟨g,0,none⟩=some a0∧w.cell? ⟨g,1,none⟩=some a1∧w.cell? ⟨g,2,none⟩=some a2∧w.cell? ⟨g,3,none⟩=some a3∧w.cell? ⟨g,4,none⟩=some a4∧w.cell? ⟨g,5,none⟩=some a5:=⟨h.cell 0,h.cell 1,h.cell 2,h.cell 3,h.cell 4,h.cell 5⟩
theorem Blk.f6 {w:World}{g t:Nat}{a0 a1 a2 a3 a4 a5:Value}(h:Blk w g t #[a0,a1,a2,a3,a4,a5]):w.frozen? ⟨g,0,none⟩=false∧w.frozen? ⟨g,1,none⟩=false∧w.frozen? ⟨g,2,none⟩=false∧w.frozen? ⟨g,3,none⟩=false∧w.frozen? ⟨g,4,none⟩=false∧w.frozen? ⟨g,5,none⟩=false:=⟨h.frozen 0,h.frozen 1,h.frozen 2,h.frozen 3,h.frozen 4,h.frozen 5⟩
theorem eG {b H:Nat}(h:b < H):b < H∧b < H+1∧b < H+2∧b < H+3:=by omega
theorem ir {b H:Nat}(h:b+1 < H):b+1 < H∧b < H∧b < H+1∧b < H+2:=by omega
theorem tq {b H:Nat}(h:b+2 < H):b+2 < H∧b+1 < H∧b < H∧b < H+1:=by omega
theorem BM {b H:Nat}(h:b+3 < H):b+3 < H∧b+2 < H∧b+1 < H∧b < H:=by omega

theorem ym (w:World) (A:Option Addr) (n c:Nat) (l:List Nat) (h:Wd w A n c l) (i:Int) (hi:0≤i) (hn:n≤4398046511104) :
 Calls Tryz.prog 172 #[.slice A n c,.int .i64 i] w fun e w'=>e=.returned (.int .u64 (wd l i.toNat:Nat))∧w=w':=by
 obtain ⟨k,rfl⟩:=Int.eq_ofNat_of_zero_le hi;have hl:=h.lt k;have hlen:n=l.length:=h.2.1;by_cases hk:k < n
 ·obtain ⟨g,o,rfl,hc⟩:=h.at_ (by omega)
  have hck:=hc k hk;clear hc hi;have H:=Qh hlen;clear hlen;go_in;go_wp2;go_ret;exact ⟨by simp,rfl⟩
 have hz:wd l k=0:=dN (by omega);have H:=Qh hz;have H2:=Qh hlen;clear hz hi hlen;go_in;go_wp2;go_ret;exact ⟨by simp [H.out],rfl⟩

theorem kr (w:World) (A:Option Addr) (n c:Nat) (l:List Nat) (h:Wd w A n c l) (k x:Nat) (hx:wd l k=x) (hn:n≤4398046511104) :
 Calls Tryz.prog 172 #[.slice A n c,.int .i64 (k:Nat)] w fun e w'=>e=.returned (.int .u64 (x:Nat))∧w=w':=by
 subst hx;have:=ym w A n c l h (k:Nat) (by omega) hn;simpa using this

theorem tr (w:World) (A:Option Addr) (n c:Nat) (l:List Nat) (h:Wd w A n c l) (k x:Nat) (hx:wd l k=x) (hn:n≤4398046511104) :
 Calls Tryz.prog 172 #[.slice A n c,.int .i64 (k:Nat)] w fun e w'=>e=.returned (.int .u64 (x:Nat))∧w'=w :=
 (kr w A n c l h k x hx hn).mono fun _ _ ⟨a,b⟩=>⟨a,b.symm⟩

theorem dP:(Tryz.prog.info? 173).map (fun i=>(i.zero,i.size,i.bytes))=some (some (.int .u32 0),1,4):=by kernel_rfl

theorem rJ (n:Nat):madeCells #[Value.int .u32 0] n=cellsOf (List.replicate n 0):=by
 apply Array.toList_inj.1;rw [toList_madeCells_one];simp [cellsOf,List.map_replicate]
theorem aL (w:World) {ops:Array Oper}{rest:List Oper}{o:Oper}{a:Act}{Q:Exit→Act→World→Prop}
 (hg:o.guard=none) (l c:Operand) (hop:o.op=Op.makeSlice 52 l c)
 (kl kc:IntKind) (L C:Int) (n:Nat) (hl:a.eval l=.int kl L) (hc:a.eval c=.int kc C) (hL:L=(n:Int)) (hC:C=(n:Int)) (hn:n≤4398046511104)
 (hK:wpList Tryz.prog ops Q rest (a.put o.dst (.slice (some ⟨w.heap.size,0,none⟩) n n)) (w.alloc (.cells (cellsOf (List.replicate n 0)) 173))) :
 wpList Tryz.prog ops Q (o :: rest) a w:=by
 refine wpList_plain hg fun K hK'=>?_
 obtain ⟨i0,hi0,hz0,hz1,hz2⟩:=info_parts dP;have hr:=run_make (P:=Tryz.prog) w 52 173 i0 (.int .u32 0) Tryz.underlying52 hi0 hz0 kl kc n n (by omega) (by omega) (by rw [hz2];omega) (by omega);subst hL;subst hC;simp only [Int.toNat_natCast,hz1,Nat.mul_one] at hr;have e:(Value.int IntKind.u32 0).cells=#[Value.int IntKind.u32 0]:=rfl;rw [e,rJ] at hr;unfold Oper.wp;simp [execOp,hop,hl,hc,hr,Result.andThen];exact hK' _ _ hK

def qH (l:List Nat) (k:Nat):Prop:=∀ i,k≤i→wd l i=0
theorem eH (w:World) (A:Option Addr) (n c:Nat) (l:List Nat) (h:Wd w A n c l) (hn:n≤4398046511104) :
 Calls Tryz.prog 156 #[.slice A n c] w (fm w (am (val l))):=by
 have HL:=Qh h.2.1;have hcap:n≤c:=h.2.2.1;obtain ⟨i0,hi0,hz0,hz1,hz2⟩:=info_parts dP;go_in;go_wp2;go_loop [3] (fun v=>∃ k:Nat,k≤n∧v=.int .i64 k∧qH l k) (fun v=>(intOf v).toNat)
 case atStart=>exact ⟨n,Qr,rfl,fun i hi=>dN (by rw [← HL.out];exact hi)⟩
 case round =>
  obtain ⟨k,hk,rfl,ht⟩:=hrel;by_cases h0:k=0
  ·subst h0
   have HT:=Qh ht;clear ht;go_wp2;go_ret;refine ⟨none,0,0,rfl,?_,Below.refl _ _⟩;have:=bD h.1 (Nat.zero_le _) HT.out (.inl rfl);rw [this];exact Wd.nil_ _
  have hkp:0 < k:=by omega
  obtain ⟨g,o,rfl,hc⟩:=h.at_ (by omega);have hck:=hc (k - 1) (by omega);have hlt:=h.lt (k - 1);have HT:=Qh ht;generalize hx:wd l (k - 1)=x at *;have HX:=Qh hx;clear hc h0 ht hx;by_cases hz:x=0
  ·subst hz
   go_wp2;go_round
   case rel=>exact ⟨k - 1,by omega,by go_num,fun i hi=>by
    by_cases he:i=k - 1
    ·subst he;exact HX.out
    exact HT.out i (by omega)⟩
   case measure=>simp [intOf];omega
  have hz':((x:Int) == 0)=false:=by simp;omega
  have hk0:((k:Int) == 0)=false:=by simp;omega
  have HZ:=Qh hz;clear hz;have hown:=World.ownsRow_lit (e:=173) (size:=1) w #[] 0 Qr (by simp [maxLen]) rfl;have hnews:=(h.keep ((Kp.refl w).alloc (.cells #[] 173))).news (by omega) hk;have hnl:(words (l.take k)).length=k * 1:=by rw [cD,List.length_take,← HL.out];omega
  have HO:=Qh hown;have HN:=Qh hnews;have HNL:=Qh hnl;clear hown hnews hnl;go_wp2_with (at_builtin;refine wpList_append_lies _ rfl _ _ _ rfl w.heap.size 173 i0 (.int .u32 0) 1 4 Tryz.underlying52 hi0 hz0 hz1 hz2 rfl (by omega) _ 0 [] rfl HO.out ⟨g,o,none⟩ k c (words (l.take k)) rfl HNL.out HN.out (eT _) (by omega) (by unfold maxLen;omega) (by omega) (by simp) (w.heap.size+1) (by simp) ?_;intro g' cap w' hown' hgrow hat hlt');go_ret;simp only [Nat.zero_add,List.nil_append] at hown' ⊢;have hd:=bD h.1 (by rw [← HL.out];exact hk) HT.out (.inr (by rw [HX.out];exact HZ.out));refine ⟨_,_,_,rfl,?_,?_⟩
  ·rw [hd];exact Wd.of_own hown' (Wds.take h.1 k)
  exact ((Below.refl _ _).alloc Qr _).grown hgrow (by simp) (fun b hb=>Nat.le_of_eq (Option.some.inj hb))

theorem iu (w:World) (b:Bool) (A:Option Addr) (n c:Nat) (l:List Nat) (h:Wd w A n c l) (hn:n≤1099511627776) :
 Calls Tryz.prog 136 #[.agg #[.bool b,.slice A n c]] w (aB w (.bool (WD.ok ⟨b,l⟩))):=by
 have HL:=Qh h.2.1;by_cases h0:n=0
 ·subst h0
  have hl:l=[]:=List.eq_nil_of_length_eq_zero HL.out.symm;have HE:=Qh (show WD.ok ⟨b,l⟩=!b by unfold WD.ok;simp [hl]);clear hl;go_in;go_wp2;go_ret;exact cQ HE.out.symm ((Below.refl _ _).alloc Qr _)
 obtain ⟨g,o,rfl,hgl,hc⟩:=h.at2 (by omega);have hck:=hc (n - 1) (by omega);have hlt:=h.lt (n - 1)
 have he:WD.ok ⟨b,l⟩=!decide (wd l (n - 1)=0):=by
  have hne:l≠[]:=by rintro rfl;have:=HL.out;simp at this;omega
  unfold WD.ok;simp only [if_neg hne,← HL.out];by_cases hz:wd l (n - 1)=0 <;> simp [hz]
 have HE:=Qh he;clear he;have hn0:((n:Int) == 0)=false:=by simp;omega
 have hp:0 < n:=by omega
 clear hc h0;generalize hgx:wd l (n - 1)=x at *;clear hgx;go_in;go_wp2;go_ret;refine cQ ?_ ((Below.refl _ _).alloc Qr _);rw [HE.out];by_cases hz:x=0 <;> simp [hz]

theorem dQ (w:World) (b:Bool) (A:Option Addr) (n c:Nat) (l:List Nat) (h:Wd w A n c l) (hn:n≤1099511627776) :
 Calls Tryz.prog 120 #[.agg #[.bool b,.slice A n c]] w (fm w (WD.m ⟨b,l⟩)):=by
 cases hk:WD.ok ⟨b,l⟩
 ·have HK:=Qh hk
  go_in;go_wp2_with (go_at_call 136;refine (iu _ b A n c l (h.keep ((Kp.refl _).alloc _)) hn).mono ?_;rintro e w1 ⟨rfl,hb⟩);go_ret;refine ⟨none,0,0,rfl,?_,((Below.refl _ _).alloc Qr _).trans (hb.mono (by simp))⟩;unfold WD.m;rw [HK.out];exact Wd.nil_ _
 have HK:=Qh hk;go_in;go_wp2_with (go_at_call 136;refine (iu _ b A n c l (h.keep ((Kp.refl _).alloc _)) hn).mono ?_;rintro e w1 ⟨rfl,hb⟩;obtain ⟨hc,hf⟩:=bS hb);go_ret;refine ⟨A,n,c,rfl,?_,((Below.refl _ _).alloc Qr _).trans (hb.mono (by simp))⟩;unfold WD.m;rw [HK.out];exact h.keep (((Kp.refl _).alloc _).below hb)

theorem iw (w:World) (b:Bool) (A:Option Addr) (n c:Nat) (l:List Nat) (h:Wd w A n c l) (hn:n≤1099511627776) :
 Calls Tryz.prog 121 #[.agg #[.bool b,.slice A n c]] w (aB w (.bool (WD.s ⟨b,l⟩))):=by
 cases hk:WD.ok ⟨b,l⟩
 ·have HK:=Qh hk
  go_in;go_wp2_with (go_at_call 136;refine (iu _ b A n c l (h.keep ((Kp.refl _).alloc _)) hn).mono ?_;rintro e w1 ⟨rfl,hb⟩);go_ret;refine cQ ?_ (((Below.refl _ _).alloc Qr _).trans (hb.mono (by simp)));unfold WD.s;rw [HK.out];rfl
 have HK:=Qh hk;go_in;go_wp2_with (go_at_call 136;refine (iu _ b A n c l (h.keep ((Kp.refl _).alloc _)) hn).mono ?_;rintro e w1 ⟨rfl,hb⟩;obtain ⟨hc,hf⟩:=bS hb);go_ret;refine cQ ?_ (((Below.refl _ _).alloc Qr _).trans (hb.mono (by simp)));unfold WD.s;rw [HK.out];simp

theorem fY (w:World) (b:Bool) (A:Option Addr) (n c:Nat) (l:List Nat) (h:Wd w A n c l) (hn:n≤1099511627776) :
 Calls Tryz.prog 140 #[.bool b,.slice A n c] w (ia w (wh (sgn b (val l)))):=by
 go_in;go_wp2_with (go_at_call 156;refine (eH _ A n c l (h.keep ((Kp.refl _).alloc _)) (Nat.le_trans hn (by decide))).mono ?_;rintro e w1 ⟨A',n',c',rfl,h1,hb⟩;obtain ⟨hc,hf⟩:=bS hb)
 all_goals
  refine bodyPost_ret (v:=.agg #[.bool _,.slice A' n' c']) (by simp [results,Tryz.results140,go_sem,hc];rfl) rfl ?_;rw [tl];have hbx:=(Box.new w #[.bool false,.slice none 0 0] 134 (0,0)).below hb;refine jB ?_ (h1.keep (((Kp.refl _).setB hbx (by decide) _).setB (hbx.set _ _) (by decide) _)) ?_
  ·have hl:=h1.2.1
   simp_all
  exact ((((Below.refl _ _).alloc Qr _).trans (hb.mono (by simp))).setCell (by simp) _).setCell (by simp) _

def zI (l l':List Nat) (k:Nat):Prop:=∀ j,k≤j→wd l j=wd l' j
theorem dI (w:World) (A:Option Addr) (n c:Nat) (l:List Nat) (h:Wd w A n c l) (hn:n≤1099511627776) (A':Option Addr) (n' c':Nat) (l':List Nat) (h':Wd w A' n' c' l') (hn':n'≤1099511627776) (hc:aO l) (hc':aO l') :
 Calls Tryz.prog 119 #[.slice A n c,.slice A' n' c'] w (aB w (.int .i64 (bq (val l) (val l')))):=by
 have HL:=Qh h.2.1;have HL':=Qh h'.2.1;rcases Nat.lt_trichotomy n n' with hlt | heq | hgt
 ·have hv:val l < val l':=dh hc.1 hc' (by rw [← HL.out,← HL'.out];exact hlt)
  have HE:=Qh (show bq (val l) (val l')=-1 by unfold bq;rw [if_pos hv]);clear hv;go_in;go_wp2;go_ret;exact cJ HE.out.symm (Below.refl _ _)
 ·subst heq
  go_in;go_wp2;go_loopw [5] (fun v wr=>∃ k q:Nat,k≤n∧v=.int .i64 ((k:Int) - 1)∧zI l l' k∧wr=w.drewN q) (fun v _=>(intOf v+1).toNat)
  case atStart=>exact ⟨n,0,Qr,rfl,fun j hj=>by rw [dN (by rw [← HL.out];exact hj),dN (by rw [← HL'.out];exact hj)],rfl⟩
  case round =>
   obtain ⟨k,q,hk,rfl,hI,rfl⟩:=hrel;by_cases h0:k=0
   ·subst h0
    have HE:=Qh (show bq (val l) (val l')=0 by unfold bq;rw [lH (fun j=>hI j (Nat.zero_le _))];simp);clear hI;go_wp2;go_ret;exact cJ HE.out.symm (by repeat (first | exact Below.refl _ _ | refine af ?_ _))
   obtain ⟨g,o,rfl,hc1⟩:=h.at_ (by omega);obtain ⟨g',o',rfl,hc2⟩:=h'.at_ (by omega);have hck1:=hc1 (k - 1) (by omega);have hck2:=hc2 (k - 1) (by omega);have hb1:(0:Int)≤(k:Int) - 1:=by omega
   have hb2:(k:Int) - 1 < (n:Int):=by omega
   have HX:=Qh hI;have ex:∃ x y,wd l (k - 1)=x∧wd l' (k - 1)=y:=⟨_,_,rfl,rfl⟩;obtain ⟨x,y,hx,hy⟩:=ex;rw [hx] at hck1;rw [hy] at hck2;have HXY:=Qh (And.intro hx hy);clear hI hc1 hc2 hx hy h0;have hkk:((k:Int) - 1).toNat=k - 1:=by omega
   rcases Nat.lt_trichotomy x y with hxy | rfl | hxy
   ·have hne:((x:Int) != (y:Int))=true:=by rw [bne_iff_ne];omega
    have HE:=Qh (show bq (val l) (val l')=-1 by unfold bq;rw [if_pos (fW h.1 (i:=k - 1) (by rw [HXY.out.1,HXY.out.2];exact hxy) (fun j hj=>HX.out j (by omega)))]);go_wp2_with fail;go_quiet (fail);go_wp2_with fail;go_quiet (fail);go_wp2;go_ret;exact cJ HE.out.symm (by repeat (first | exact Below.refl _ _ | refine af ?_ _))
   ·go_wp2_with fail
    go_quiet (fail);go_wp2;go_roundw
    case rel=>exact ⟨k - 1,_,by omega,by go_num,fun j hj=>by
     by_cases hj':j=k - 1
     ·subst hj';rw [HXY.out.1,HXY.out.2]
     exact HX.out j (by omega),rfl⟩
    case measure=>simp [intOf];omega
   have hne:((x:Int) != (y:Int))=true:=by rw [bne_iff_ne];omega
   have HE:=Qh (show bq (val l) (val l')=1 by
    have:=fW h'.1 (i:=k - 1) (by rw [HXY.out.1,HXY.out.2];exact hxy) (fun j hj=>(HX.out j (by omega)).symm)
    unfold bq;rw [if_neg (by omega),if_neg (by omega)])
   go_wp2_with fail;go_quiet (fail);go_wp2_with fail;go_quiet (fail);go_wp2;go_ret;exact cJ HE.out.symm (by repeat (first | exact Below.refl _ _ | refine af ?_ _))
 have hv:val l' < val l:=dh hc'.1 hc (by rw [← HL.out,← HL'.out];exact hgt);have HE:=Qh (show bq (val l) (val l')=1 by unfold bq;rw [if_neg (by omega),if_neg (by omega)]);clear hv;go_in;go_wp2;go_ret;exact cJ HE.out.symm (Below.refl _ _)

abbrev Sees (B:Nat) (W0 W:World):Prop:=((∀ b o,b < B→W.cell? ⟨b,o,none⟩=W0.cell? ⟨b,o,none⟩)∧(∀ b o,b < B→W.frozen? ⟨b,o,none⟩=W0.frozen? ⟨b,o,none⟩))∧B≤W.heap.size
theorem Sees.of {B:Nat}{W0 W:World}(h:B≤W0.heap.size) (hb:Below W0.heap.size W0 W):Sees B W0 W :=
 ⟨⟨fun b o hlt=>(bS hb).1 b o (Nat.lt_of_lt_of_le hlt h),fun b o hlt=>(bS hb).2 b o (Nat.lt_of_lt_of_le hlt h)⟩,Nat.le_trans h hb.size⟩
theorem bG (w:World) (c:Array Value) (t:TypeId) {g:Nat}(h:g=w.heap.size) (hc:noU c=true:=by rfl):Box (w.alloc (.cells c t)) g t:=by subst h;exact Box.new w c t (0,0) hc
theorem Sees.set {B:Nat}{W0 W:World}(h:Sees B W0 W) {g i:Nat}{u:Value}(hg:B≤g):Sees B W0 (W.setCell ⟨g,i,none⟩ u):=by
 refine ⟨⟨fun b o hlt=>?_,fun b o hlt=>?_⟩,?_⟩
 ·rw [← h.1.1 b o hlt];unfold World.cell?;rw [Below.heap_setCell _ _ _ b (by show b≠g;omega)]
 ·rw [← h.1.2 b o hlt];unfold World.frozen?;rw [Below.heap_setCell _ _ _ b (by show b≠g;omega)]
 have:=h.2;simp [World.setCell];exact this
def tt (w:World) (p:Addr):Value:=(w.cell? p).getD (.bool false)
abbrev bj (R B m:Nat) (W0 W:World):Prop:=((∀ b o,b < R→W.cell? ⟨b,o,none⟩=W0.cell? ⟨b,o,none⟩)∧(∀ b o,b < R→W.frozen? ⟨b,o,none⟩=W0.frozen? ⟨b,o,none⟩)) ∧
  (∀ b o,R≤b→b < B→o < m→W.cell? ⟨b,o,none⟩=some (tt W ⟨b,o,none⟩))∧(∀ b o,R≤b→b < B→W.frozen? ⟨b,o,none⟩=false)
theorem cell_isSome {w:World}{p:Addr}:w.cell? p=some (tt w p) ↔ (w.cell? p).isSome=true:=by
 unfold tt;cases w.cell? p <;> simp
abbrev ix (R B m:Nat) (W:World):Prop:=∀ b,R≤b→b < B→∃ c t,Blk W b t c∧c.size=m
theorem bj.of {R B m:Nat}{W0 W:World}(hR:R≤B) (h:B≤W0.heap.size) (hm:ix R B m W0) (hb:Below W0.heap.size W0 W):bj R B m W0 W:=by
 refine ⟨⟨fun b o hlt=>(bS hb).1 b o (by omega),fun b o hlt=>(bS hb).2 b o (by omega)⟩,fun b o h1 h2 h3=>?_,fun b o h1 h2=>?_⟩
 ·obtain ⟨c,t,hc,hs⟩:=hm b h1 h2
  rw [cell_isSome,(bS hb).1 b o (by omega),hc.cell];simp [hs,h3]
 obtain ⟨c,t,hc,hs⟩:=hm b h1 h2;rw [(bS hb).2 b o (by omega),hc.frozen]
theorem lL {w:World}{c:Array Value}{t:TypeId}{R:Nat}(h:R=w.heap.size):ix R (R+1) c.size (w.alloc (.cells c t)):=by
 intro b h1 h2;have:b=w.heap.size:=by omega
 subst this;exact ⟨c,t,Blk.new _ _ _,rfl⟩
theorem xR {w:World}{c c':Array Value}{t t':TypeId}{R:Nat}(h:R=w.heap.size) (he:c.size=c'.size):ix R (R+1+1) c'.size ((w.alloc (.cells c t)).alloc (.cells c' t')):=by
 intro b h1 h2;by_cases e:b=w.heap.size
 ·subst e;exact ⟨c,t,(Blk.new _ _ _).alloc _,he⟩
 have:b=(w.alloc (.cells c t)).heap.size:=by simp;omega
 subst this;exact ⟨c',t',Blk.new _ _ _,rfl⟩
theorem lp {w:World}{p q:Addr}{u:Value}(h:(w.cell? p).isSome=true) (hp:p.spot=none):((w.setCell q u).cell? p).isSome=true:=by
 obtain ⟨b,o,s⟩:=p;simp only at hp;subst hp;unfold World.cell? at h ⊢;by_cases e:b=q.block
 ·subst e
  simp only [World.setCell,Array.getElem?_modify,if_true] at h ⊢
  cases hh:w.heap[q.block]? with
  | none=>rw [hh] at h;simp at h
  | some ob =>
   rw [hh] at h;cases ob <;> simp_all;split <;> simp_all
 rw [Below.heap_setCell w q u b e];exact h
theorem bj.set {R B m:Nat}{W0 W:World}(h:bj R B m W0 W) {g i:Nat}{u:Value}(hg:R≤g):bj R B m W0 (W.setCell ⟨g,i,none⟩ u):=by
 refine ⟨⟨fun b o hlt=>?_,fun b o hlt=>?_⟩,fun b o h1 h2 h3=>?_,fun b o h1 h2=>?_⟩
 ·rw [← h.1.1 b o hlt];unfold World.cell?;rw [Below.heap_setCell _ _ _ b (by show b≠g;omega)]
 ·rw [← h.1.2 b o hlt];unfold World.frozen?;rw [Below.heap_setCell _ _ _ b (by show b≠g;omega)]
 ·rw [cell_isSome];exact lp (cell_isSome.1 (h.2.1 b o h1 h2 h3)) rfl
 rw [World.frozen?_setCell];exact h.2.2 b o h1 h2
theorem ah {a w1 w2:World}(h:Below a.heap.size a w1) (hb:Below w1.heap.size w1 w2):Below a.heap.size a w2:=h.trans (hb.mono h.size)
theorem aa (a:World):Below a.heap.size a a:=Below.refl _ _
theorem Wd.belw {w w':World}{A:Option Addr}{n c:Nat}{l:List Nat}(h:Wd w A n c l) (hb:Below w.heap.size w w'):Wd w' A n c l:=h.keep ((Kp.refl w).below hb)
theorem Wd.belB {B:Nat}{w w':World}{A:Option Addr}{n c:Nat}{l:List Nat}(h:Wd w A n c l) (hb:Below B w w') (hB:B=w.heap.size):Wd w' A n c l:=by subst hB;exact h.belw hb
theorem kp2 {w:World}{g:Nat}{t:TypeId}(x:Box w g t) (ht:KT t=false) (i j:Nat) (u v:Value):Kp w ((w.setCell ⟨g,i,none⟩ u).setCell ⟨g,j,none⟩ v) :=
 fun g' _ _ y=>y.same ((Below.heap_setCell _ _ v g' (y.neB x ht)).trans (Below.heap_setCell w _ u g' (y.neB x ht)))
theorem tu {w:World}{A:Option Addr}{n c:Nat}{l:List Nat}{A':Option Addr}{n' c':Nat}{l':List Nat}(h:Wd w A n c l) (h':Wd w A' n' c' l') (hc:aO l) (hc':aO l') (hv:val l≤val l'):n≤n':=by
 rcases Nat.lt_or_ge n' n with h1 | h1
 ·have:=dh hc'.1 hc (by rw [← h.2.1,← h'.2.1];exact h1)
  omega
 exact h1
theorem WD.m_len (a:WD):a.m.length≤a.mag.length:=by unfold WD.m;split <;> simp
theorem Wd.m_len {w:World}{A:Option Addr}{n c:Nat}{b:Bool}{l:List Nat}(h:Wd w A n c (WD.m ⟨b,l⟩)) {N:Nat}(hN:l.length≤N):n≤N:=by
 rw [h.2.1];exact Nat.le_trans (WD.m_len _) hN
theorem yn {a b:WD}(h:a.s=b.s):a.z+b.z=sgn a.s (val a.m+val b.m):=by
 rw [a.z_eq,b.z_eq,← h];cases a.s <;> simp [sgn];omega
theorem yo {a b:WD}(h:a.s≠b.s) (hv:val b.m≤val a.m):a.z+b.z=sgn a.s (val a.m - val b.m):=by
 rw [a.z_eq,b.z_eq];cases ha:a.s <;> cases hb:b.s <;> simp_all [sgn] <;> omega
theorem yp {a b:WD}(h:a.s≠b.s) (hv:val a.m≤val b.m):a.z+b.z=sgn b.s (val b.m - val a.m):=by
 rw [a.z_eq,b.z_eq];cases ha:a.s <;> cases hb:b.s <;> simp_all [sgn] <;> omega
theorem pt {x n N:Nat}(h:x < 4294967296 ^ n) (hN:n≤N):(am x).length≤N:=Nat.le_trans (ar h) hN
theorem Wd.vlt {w:World}{A:Option Addr}{n c:Nat}{l:List Nat}(h:Wd w A n c l) {N:Nat}(hN:n≤N):val l < 4294967296 ^ N :=
 Nat.lt_of_lt_of_le (cF h.1) (Nat.pow_le_pow_right (by omega) (by have:=h.2.1;omega))
theorem pu {x y n:Nat}(hx:x < 4294967296 ^ n) (hy:y < 4294967296 ^ n):x+y < 4294967296 ^ (n+1):=by rw [Nat.pow_succ];omega
theorem tw {w:World}{A:Option Addr}{n c:Nat}{l:List Nat}{A':Option Addr}{n' c':Nat}{l':List Nat}{N M:Nat}(h:Wd w A n c l) (h':Wd w A' n' c' l') (hn:n≤N) (hn':n'≤N) (hM:N+1≤M):(am (val l+val l')).length≤M :=
 pt (pu (h.vlt hn) (h'.vlt hn')) hM
theorem rK {w:World}{A:Option Addr}{n c:Nat}{l:List Nat}{A':Option Addr}{n' c':Nat}{l':List Nat}{M:Nat}(h:Wd w A n c l) (h':Wd w A' n' c' l') (hM:n+n'≤M):(am (val l * val l')).length≤M :=
 pt (Nat.lt_of_lt_of_eq (Nat.mul_lt_mul'' (h.vlt Qr) (h'.vlt Qr)) (Nat.pow_add _ _ _).symm) hM
theorem cR (w:World) (b:Bool) (A:Option Addr) (n c:Nat) (l:List Nat) (z:Int) (h:Wd w A n c l) (hn:n≤1099511627776) (hz:sgn b (val l)=z) :
 Calls Tryz.prog 140 #[.bool b,.slice A n c] w (ia w (wh z)):=by subst hz;exact fY w b A n c l h hn
theorem qI {a b:Nat}:(0≤bq a b)=(b≤a):=by
 unfold bq;split
 ·simp;omega
 split <;> simp <;> omega
end Go.Proofs.YtndhgcfajlalhaaGreatDoor
namespace Bn
theorem split_mul (s P:Nat):s % 4294967296 * P+s / 4294967296 * (P * 4294967296)=s * P:=by
 have h:=Nat.div_add_mod s 4294967296
 have e:s / 4294967296 * (P * 4294967296)=(4294967296 * (s / 4294967296)) * P:=by
  rw [Nat.mul_comm P,← Nat.mul_assoc,Nat.mul_comm (s / 4294967296)]
 rw [e,← Nat.add_mul,Nat.add_comm,h]

theorem fZ {O A C c x y P:Nat}(h:O+c * P=A+C):(O+(c+x+y) % 4294967296 * P)+(c+x+y) / 4294967296 * (P * 4294967296)=(A+x * P)+(C+y * P):=by
 have:=split_mul (c+x+y) P;rw [Nat.add_mul,Nat.add_mul] at this;omega

theorem pw {T T' R c x y o Sb P Pi Pk:Nat}(h:T+c * P=R+x * Sb * Pi) (hP:P=Pi * Pk) (hs:T'+o * P=T+(c+x * y+o) % 4294967296 * P) :
 T'+(c+x * y+o) / 4294967296 * (P * 4294967296)=R+x * (Sb+y * Pk) * Pi:=by
 have h1:=split_mul (c+x * y+o) P;rw [Nat.add_mul,Nat.add_mul] at h1
 have e:x * (Sb+y * Pk) * Pi=x * Sb * Pi+x * y * P:=by
  subst hP;grind
 rw [e];omega

theorem lM {O A C b x y b' l P:Nat}(h:O+C=A+b * P) (hl:l+y+b=x+b' * 4294967296):(O+l * P)+(C+y * P)=(A+x * P)+b' * (P * 4294967296):=by
 have e:b' * (P * 4294967296)=(b' * 4294967296) * P:=by grind
 have:(l+y+b) * P=(x+b' * 4294967296) * P:=by rw [hl]
 rw [Nat.add_mul,Nat.add_mul,Nat.add_mul] at this;rw [e];omega

theorem px {a V r b U:Nat}(h:U=b * V+r):a+4294967296 * U=b * ((r * 4294967296+a) / b+4294967296 * V)+(r * 4294967296+a) % b:=by
 have:=Nat.div_add_mod (r * 4294967296+a) b;rw [h,Nat.mul_add,Nat.mul_add];have e:b * (4294967296 * V)=4294967296 * (b * V):=by grind
 rw [e];omega

/-! ### Knuth's division -/
theorem tz {P v q top head D low third:Nat}(hP:P=head * D+third) (ht:third < D) (hv:v=top * D+low) (hq:q * v≤P) (hpos:0 < top):q≤head / top:=by
 rw [Nat.le_div_iff_mul_le hpos]
 have h1:q * top * D≤P:=by
  rw [hv,Nat.mul_add] at hq;have:q * (top * D)=q * top * D:=by grind
  omega
 have h2:q * top * D < (head+1) * D:=by rw [Nat.add_mul];omega
 have:=Nat.lt_of_mul_lt_mul_right h2;omega
end Bn
namespace Bn
theorem tA {P v q top next head D low third w3 low3 guess rest:Nat}(hP:P=head * (D * 4294967296)+w3 * D+low3) (ht:low3 < D) (hv:v=top * (D * 4294967296)+next * D+low)
 (hg:guess * top+rest=head) (hq:q * v≤P) (htest:rest * 4294967296+w3 < guess * next):q < guess:=by
 have _:=third;rcases Nat.lt_or_ge q guess with h | h
 ·exact h
 exfalso;have h1:guess * v≤P:=Nat.le_trans (Nat.mul_le_mul_right v h) hq;have h2:guess * v=guess * top * (D * 4294967296)+guess * next * D+guess * low:=by rw [hv];grind
 have h3:(rest * 4294967296+w3+1) * D≤guess * next * D:=Nat.mul_le_mul_right D htest;have h4:head * (D * 4294967296)=guess * top * (D * 4294967296)+rest * (D * 4294967296):=by rw [← hg,Nat.add_mul]
 have h5:(rest * 4294967296+w3+1) * D=rest * (D * 4294967296)+w3 * D+D:=by grind
 omega

theorem tB {P v q top next head D low w3 low3 guess rest:Nat}(hP:P=head * (D * 4294967296)+w3 * D+low3) (hv:v=top * (D * 4294967296)+next * D+low) (hlow:low < D)
 (hg:guess * top+rest=head) (hq:P < (q+1) * v) (htop:0 < top) (hgb:guess≤4294967296) (hnext:next < 4294967296)
 (htest:4294967296≤rest∨guess * next≤rest * 4294967296+w3):guess≤q+1:=by
 have hnx:guess * next≤rest * 4294967296+w3:=by
  rcases htest with h | h
  ·have h1:guess * next≤4294967296 * next:=Nat.mul_le_mul_right _ hgb
   have h2:4294967296 * next≤4294967296 * 4294967296:=Nat.mul_le_mul_left _ (by omega);omega
  exact h
 rcases Nat.lt_or_ge (q+1) guess with h | h
 ·exfalso
  have h1:(q+1+1) * v≤guess * v:=Nat.mul_le_mul_right v h;have h2:guess * v=guess * top * (D * 4294967296)+guess * next * D+guess * low:=by rw [hv];grind
  have h3:guess * next * D≤(rest * 4294967296+w3) * D:=Nat.mul_le_mul_right D hnx;have h4:head * (D * 4294967296)=guess * top * (D * 4294967296)+rest * (D * 4294967296):=by rw [← hg,Nat.add_mul]
  have h5:(rest * 4294967296+w3) * D=rest * (D * 4294967296)+w3 * D:=by grind
  have h6:guess * low≤4294967296 * low:=Nat.mul_le_mul_right _ hgb;have h7:(q+1+1) * v=(q+1) * v+v:=by grind
  have h8:1 * (D * 4294967296)≤top * (D * 4294967296):=Nat.mul_le_mul_right _ htop;omega
 exact h

theorem nD {top head guess rest:Nat}(hhead:head < (top+1) * 4294967296) (hg:guess * top+rest=head) (hge:4294967296≤guess):rest < 4294967296:=by
 rcases Nat.lt_or_ge rest 4294967296 with h | h
 ·exact h
 exfalso;have h1:4294967296 * top≤guess * top:=Nat.mul_le_mul_right _ hge;rw [Nat.add_mul] at hhead;omega
end Bn

/- Walks: sums, differences and products of lists of words. -/
namespace Go.Proofs.YtndhgcfajlalhaaGreatDoor
open Go Go.RowKit Bn
attribute [local go_sem ↓] Go.wp_at_zero Go.wp_at_succ

def tC (l l' L:List Nat) (i:Nat) (cr:Nat):Prop:=Wds L∧Sm (wd L) i+cr * 4294967296 ^ i=Sm (wd l) i+Sm (wd l') i
theorem py (w:World) (A n c l) (wa:Wd w A n c l) (hn:n≤1099511627776) (A' n' c' l') (wb:Wd w A' n' c' l') (hn':n'≤1099511627776) :
 Calls Tryz.prog 141 #[.slice A n c,.slice A' n' c'] w (fm w (am (val l+val l'))):=by
 have HL:=Qh wa.2.1;have HL':=Qh wb.2.1;obtain ⟨M,hM⟩:∃ M,M=max n n'+1:=⟨_,rfl⟩;have HM:=Qh hM;have hM1:n < M:=by omega
 have hM2:n' < M:=by omega
 have hM3:M≤1099511627777:=by omega
 clear hM;go_in;go_wp2_with (at_make;refine aL _ rfl _ _ rfl _ _ _ _ M rfl rfl (by have:=HM.out;omega) (by have:=HM.out;omega) (by omega) ?_)
 all_goals
  go_loopw [6,17] (fun cv iv wr=>∃ (k cr:Nat) (L:List Nat),k≤M∧iv=.int .i64 (k:Nat)∧cv=.int .u64 (cr:Nat)∧cr≤1∧L.length=M∧tC l l' L k cr∧Blk wr w.heap.size 173 (cellsOf L)∧Below w.heap.size w wr) (fun _ iv _=>M - (intOf iv).toNat)
  case atStart=>exact ⟨0,0,List.replicate M 0,Nat.zero_le _,rfl,rfl,by omega,by simp,⟨by intro x hx;rw [List.eq_of_mem_replicate hx];omega,by simp [Sm]⟩,Blk.new _ _ _,(Below.refl _ _).alloc Qr _⟩
  case round =>
   obtain ⟨k,cr,L,hk,rfl,rfl,hcr,hLM,hI,hB,hbel⟩:=hrel;have hKp:=Qh ((Kp.refl w).below hbel);have HI:=Qh hI;have HB:=Qh hB;have HLM:=Qh hLM;clear hI hB hLM;by_cases hkM:k < M
   ·obtain ⟨x,y,hx,hy⟩:∃ x y,wd l k=x∧wd l' k=y:=⟨_,_,rfl,rfl⟩
    have hx1:x < 4294967296:=by rw [← hx];exact wa.lt k
    have hy1:y < 4294967296:=by rw [← hy];exact wb.lt k
    have HX:=Qh hx;have HY:=Qh hy;have hck:=HB.out.cell k;rw [az (by rw [HLM.out];exact hkM)] at hck;have hfk:=HB.out.frozen k;clear hx hy
    go_wp2_with (first
     | (go_at_call 172;(with_reducible refine (kr _ A n c l ?_ k x HX.out (by omega)).mono ?_);exact wa.keep hKp.out;rintro e w' ⟨rfl,rfl⟩)
     | (go_at_call 172;(with_reducible refine (kr _ A' n' c' l' ?_ k y HY.out (by omega)).mono ?_);exact wb.keep hKp.out;rintro e w' ⟨rfl,rfl⟩))
    go_roundw
    case rel =>
     have hst:=fZ (x:=x) (y:=y) HI.out.2;refine ⟨k+1,(cr+x+y) / 4294967296,L.set k ((cr+x+y) % 4294967296),by omega,by go_num,by go_num,by omega,by rw [List.length_set];exact HLM.out,⟨wds_set HI.out.1 _ (Nat.mod_lt _ (by omega)),?_⟩,HB.out.setW k _ _ (by omega),hbel.setCell Qr _⟩;rw [bM _ _ _ (by rw [HLM.out];exact hkM),Sm,Sm,HX.out,HY.out,Nat.pow_succ];exact hst
    case measure=>simp [intOf];omega
   have hkk:k=M:=by omega
   subst hkk
   have hv:val L=val l+val l':=by
    have h1:=HI.out.2;have h2:=cF wa.1;have h3:=cF wb.1;rw [aX L (by rw [HLM.out];exact Qr),aX l (by rw [← HL.out];omega),aX l' (by rw [← HL'.out];omega)] at h1;have h4:4294967296 ^ l.length≤4294967296 ^ (k - 1):=Nat.pow_le_pow_right (by omega) (by rw [← HL.out];have:=HM.out;omega);have h5:4294967296 ^ l'.length≤4294967296 ^ (k - 1):=Nat.pow_le_pow_right (by omega) (by rw [← HL'.out];have:=HM.out;omega);have h6:4294967296 ^ k=4294967296 ^ (k - 1) * 4294967296:=by rw [← Nat.pow_succ];congr 1;omega
    rcases (show cr=0∨cr=1 by omega) with rfl | rfl
    ·omega
    omega
   have HV:=Qh hv;clear hv;go_wp2_with fail;refine (eH _ _ k k L ?_ ?_).mono ?_
   ·exact HB.out.wdN HI.out.1 HLM.out
   ·omega
   rintro e w1 ⟨A1,n1,c1,rfl,h1,hb1⟩;go_wp2;go_ret;rw [HV.out] at h1;exact ⟨_,_,_,rfl,h1,hbel.trans (hb1.mono hbel.size)⟩

theorem lN {x y br:Nat}(hx:x < 4294967296) (hy:y < 4294967296) (hbr:br≤1) {d1 d2:Int}(h1:IntKind.u64.wrap ((x:Int) - (y:Int))=d1) (h2:IntKind.u64.wrap (d1 - (br:Int))=d2) :
 ∃ b' lo:Nat,b'≤1∧lo < 4294967296∧d2 / 9223372036854775808=(b':Int)∧d2 % 4294967296=(lo:Int)∧lo+y+br=x+b' * 4294967296:=by
 rw [IntKind.wrap_u64] at h1 h2;by_cases h:y+br≤x
 ·refine ⟨0,x - y - br,by omega,by omega,by omega,by omega,by omega⟩
 refine ⟨1,4294967296+x - y - br,by omega,by omega,by omega,by omega,by omega⟩
def xS (l l' L:List Nat) (i:Nat) (br:Nat):Prop:=Wds L∧Sm (wd L) i+Sm (wd l') i=Sm (wd l) i+br * 4294967296 ^ i
theorem pz (w:World) (A n c l) (wa:Wd w A n c l) (hn:n≤1099511627776) (A' n' c' l') (wb:Wd w A' n' c' l') (hn':n'≤n) (hv:val l'≤val l) :
 Calls Tryz.prog 142 #[.slice A n c,.slice A' n' c'] w (fm w (am (val l - val l'))):=by
 have HL:=Qh wa.2.1;have HL':=Qh wb.2.1;have HV:=Qh hv;clear hv;go_in;go_wp2_with (at_make;refine aL _ rfl _ _ rfl _ _ _ _ n rfl rfl (by omega) (by omega) (by omega) ?_);go_loopw [6,14] (fun cv iv wr=>∃ (k br:Nat) (L:List Nat),k≤n∧iv=.int .i64 (k:Nat)∧cv=.int .u64 (br:Nat)∧br≤1∧L.length=n∧xS l l' L k br∧Blk wr w.heap.size 173 (cellsOf L)∧Below w.heap.size w wr) (fun _ iv _=>n - (intOf iv).toNat)
 case atStart=>exact ⟨0,0,List.replicate n 0,Nat.zero_le _,rfl,rfl,by omega,by simp,⟨by intro x hx;rw [List.eq_of_mem_replicate hx];omega,by simp [Sm]⟩,Blk.new _ _ _,(Below.refl _ _).alloc Qr _⟩
 case round =>
  obtain ⟨k,br,L,hk,rfl,rfl,hbr,hLM,hI,hB,hbel⟩:=hrel;have hKp:=Qh ((Kp.refl w).below hbel);have HI:=Qh hI;have HB:=Qh hB;have HLM:=Qh hLM;clear hI hB hLM;by_cases hkM:k < n
  ·obtain ⟨g,o,rfl,hgl,hc1⟩:=(wa.keep hKp.out).at2 (by omega)
   have hcx:=hc1 k hkM;obtain ⟨x,y,hx,hy⟩:∃ x y,wd l k=x∧wd l' k=y:=⟨_,_,rfl,rfl⟩;have hx1:x < 4294967296:=by rw [← hx];exact wa.lt k
   have hy1:y < 4294967296:=by rw [← hy];exact wb.lt k
   rw [hx] at hcx;have HX:=Qh hx;have HY:=Qh hy;have hck:=HB.out.cell k;rw [az (by rw [HLM.out];exact hkM)] at hck;have hfk:=HB.out.frozen k;clear hx hy hc1;have hk0:(0:Int)≤(k:Int):=by omega
   have hk1:(k:Int) < (n:Int):=by omega
   have e1:IntKind.u64.wrap (x:Int)=(x:Int):=IntWalk.u64_in _ ⟨by omega,by omega⟩;obtain ⟨d1,hd1⟩:∃ d,IntKind.u64.wrap ((x:Int) - (y:Int))=d:=⟨_,rfl⟩;obtain ⟨d2,hd2⟩:∃ d,IntKind.u64.wrap (d1 - (br:Int))=d:=⟨_,rfl⟩;have HD:=Qh (And.intro hd1 hd2);go_wp2_with fail;go_quiet ((go_at_call 172;exact Calls.quiet_of_same (tr _ A' n' c' l' ((wb.keep hKp.out).keep ((Kp.refl _).drewN _)) k y HY.out (by omega))));clear hd1 hd2 e1;go_wp2;obtain ⟨b',lo,hb',hlo,e63,e32,hs⟩:=lN hx1 hy1 hbr HD.out.1 HD.out.2;go_roundw
   case rel =>
    refine ⟨k+1,b',L.set k lo,by omega,by go_num,by rw [e63],hb',by rw [List.length_set];exact HLM.out,⟨wds_set HI.out.1 _ hlo,?_⟩,?_,?_⟩
    ·rw [bM _ _ _ (by rw [HLM.out];exact hkM),Sm,Sm,HX.out,HY.out,Nat.pow_succ]
     exact lM HI.out.2 hs
    ·exact (HB.out.drewN _).setW k _ _ e32
    exact (af hbel _).setCell Qr _
   case measure=>simp [intOf];omega
  have hkk:k=n:=by omega
  subst hkk
  have hv2:val L=val l - val l':=by
   have h1:=HI.out.2;have h2:=cF HI.out.1;have h3:=HV.out;rw [HLM.out] at h2;rw [aX L (by rw [HLM.out];exact Qr),aX l (by rw [← HL.out];omega),aX l' (by rw [← HL'.out];omega)] at h1;rcases (show br=0∨br=1 by omega) with rfl | rfl
   ·omega
   omega
  have HV2:=Qh hv2;clear hv2;go_wp2_with fail;refine (eH _ _ k k L ?_ ?_).mono ?_
  ·exact HB.out.wdN HI.out.1 HLM.out
  ·omega
  rintro e w1 ⟨A1,n1,c1,rfl,h1,hb1⟩;go_wp2;go_ret;rw [HV2.out] at h1;exact ⟨_,_,_,rfl,h1,hbel.trans (hb1.mono hbel.size)⟩

theorem zJ (w:World) (b:Bool) (A n c l) (wa:Wd w A n c l) (hn:n≤1099511627000) (b':Bool) (A' n' c' l') (wb:Wd w A' n' c' l') (hn':n'≤1099511627000) :
 Calls Tryz.prog 99 #[.agg #[.bool b,.slice A n c],.agg #[.bool b',.slice A' n' c']] w (ia w (wh (WD.z ⟨b,l⟩+WD.z ⟨b',l'⟩))):=by
 have HL:=Qh wa.2.1;have HL':=Qh wb.2.1;go_in;go_wp2_with fail;have b0:Below w.heap.size w (((w.alloc (.cells #[.bool b,.slice A n c] 134)).alloc (.cells #[.bool b',.slice A' n' c'] 134)).alloc (.cells #[.bool false,.slice none 0 0] 134)):=((((Below.refl _ _).alloc Qr _).alloc (by simp) _).alloc (by simp;omega) _);generalize hW0:(((w.alloc (.cells #[.bool b,.slice A n c] 134)).alloc (.cells #[.bool b',.slice A' n' c'] 134)).alloc (.cells #[.bool false,.slice none 0 0] 134))=W0 at b0 ⊢;have c00:W0.cell? ⟨w.heap.size,0,none⟩=some (.bool b):=by subst hW0;simp [go_sem]
 have f00:W0.frozen? ⟨w.heap.size,0,none⟩=false:=by subst hW0;simp [go_sem]
 have c01:W0.cell? ⟨w.heap.size,1,none⟩=some (.slice A n c):=by subst hW0;simp [go_sem]
 have f01:W0.frozen? ⟨w.heap.size,1,none⟩=false:=by subst hW0;simp [go_sem]
 have c10:W0.cell? ⟨w.heap.size+1,0,none⟩=some (.bool b'):=by subst hW0;simp [go_sem]
 have f10:W0.frozen? ⟨w.heap.size+1,0,none⟩=false:=by subst hW0;simp [go_sem]
 have c11:W0.cell? ⟨w.heap.size+1,1,none⟩=some (.slice A' n' c'):=by subst hW0;simp [go_sem]
 have f11:W0.frozen? ⟨w.heap.size+1,1,none⟩=false:=by subst hW0;simp [go_sem]
 have c20:W0.cell? ⟨w.heap.size+1+1,0,none⟩=some (.bool false):=by subst hW0;simp [go_sem]
 have f20:W0.frozen? ⟨w.heap.size+1+1,0,none⟩=false:=by subst hW0;simp [go_sem]
 have c21:W0.cell? ⟨w.heap.size+1+1,1,none⟩=some (.slice none 0 0):=by subst hW0;simp [go_sem]
 have f21:W0.frozen? ⟨w.heap.size+1+1,1,none⟩=false:=by subst hW0;simp [go_sem]
 have x0:Box W0 w.heap.size 134:=by subst hW0;exact ((bG _ _ _ (by simp)).alloc _).alloc _
 have x1:Box W0 (w.heap.size+1) 134:=by subst hW0;exact (bG _ _ _ (by simp)).alloc _
 have x2:Box W0 (w.heap.size+1+1) 134:=by subst hW0;exact bG _ _ _ (by simp)
 have hm0:ix (w.heap.size+1+1) (w.heap.size+1+1+1) 2 W0:=by subst hW0;exact lL (by simp)
 have hs0:w.heap.size+1+1+1≤W0.heap.size:=by subst hW0;simp
 clear hW0;have wa:=wa.belw b0;have wb:=wb.belw b0;have r0:Below W0.heap.size W0 W0:=aa _
 go_region_held3 (fun w'=>bj (w.heap.size+1+1) (w.heap.size+1+1+1) 2 W0 w') (first | exact bj.of (by omega) hs0 hm0 (by assumption) | exact bj.of (by omega) hs0 hm0 (af (by assumption) _))
  (first
   | (go_at_call 120;(with_reducible refine (dQ _ b A n c l ?_ ?_).mono ?_);(exact wa);(omega);rintro e w1 ⟨A1,n1,c1,rfl,h1,hb1⟩;replace hb1:=ah (af (aa _) 1) hb1;have r1:=ah r0 hb1;replace wa:=wa.belw hb1;replace wb:=wb.belw hb1)
   | (go_at_call 120;(with_reducible refine (dQ _ b' A' n' c' l' ?_ ?_).mono ?_);(exact wb);(omega);rintro e w2 ⟨A2,n2,c2,rfl,h2,hb2⟩;have r2:=ah r1 hb2;replace wa:=wa.belw hb2;replace wb:=wb.belw hb2;replace h1:=h1.belw hb2))
 obtain ⟨⟨sc,sf⟩,sr,sz⟩:=bj.of (by omega) hs0 hm0 r2;clear sc sf sr sz;go_wp2_with fail
 go_region_held3 (fun w'=>bj (w.heap.size+1+1) (w.heap.size+1+1+1) 2 W0 w') (first | exact bj.of (by omega) hs0 hm0 (by assumption) | exact bj.of (by omega) hs0 hm0 (af (by assumption) _))
  (first
   | (go_at_call 121;(with_reducible refine (iw _ b A n c l ?_ ?_).mono ?_);(exact wa);(omega);rintro e w3 ⟨rfl,hb3⟩;replace hb3:=ah (af (aa _) 1) hb3;have r3:=ah r2 hb3;replace wa:=wa.belw hb3;replace wb:=wb.belw hb3;replace h1:=h1.belw hb3;replace h2:=h2.belw hb3)
   | (go_at_call 121;(with_reducible refine (iw _ b' A' n' c' l' ?_ ?_).mono ?_);(exact wb);(omega);rintro e w4 ⟨rfl,hb4⟩;have r4:=ah r3 hb4;replace wa:=wa.belw hb4;replace wb:=wb.belw hb4;replace h1:=h1.belw hb4;replace h2:=h2.belw hb4))
 obtain ⟨⟨sc,sf⟩,sr,sz⟩:=bj.of (by omega) hs0 hm0 r4;have hcm1:aO (WD.m ⟨b,l⟩):=WD.canon_m wa.1;have hcm2:aO (WD.m ⟨b',l'⟩):=WD.canon_m wb.1;have hn1:n1≤1099511627000:=h1.m_len (by rw [← HL.out];exact hn);have hn2:n2≤1099511627000:=h2.m_len (by rw [← HL'.out];exact hn');by_cases hs:WD.s ⟨b,l⟩=WD.s ⟨b',l'⟩
 ·have hs':(WD.s ⟨b,l⟩ == WD.s ⟨b',l'⟩)=true:=by simp [hs]
  have HZ:=Qh (yn hs);clear hs;rw [hs'];clear hs'
  go_wp2_with (first
   | (go_at_call 121;(with_reducible refine (iw _ b A n c l ?_ ?_).mono ?_);(exact wa);(omega);rintro e w5 ⟨rfl,hb5⟩;have r5:=ah r4 hb5;replace wa:=wa.belw hb5;replace wb:=wb.belw hb5;replace h1:=h1.belw hb5;replace h2:=h2.belw hb5;(try clear sc sf sr sz);obtain ⟨⟨sc,sf⟩,sr,sz⟩:=bj.of (by omega) hs0 hm0 r5)
   | (go_at_call 141;(with_reducible refine (py _ A1 n1 c1 (WD.m ⟨b,l⟩) ?_ ?_ A2 n2 c2 (WD.m ⟨b',l'⟩) ?_ ?_).mono ?_);(exact h1);(omega);(exact h2);(omega);rintro e w6 ⟨A3,n3,c3,rfl,h3,hb6⟩;have r6:=ah r5 hb6;replace wa:=wa.belw hb6;replace wb:=wb.belw hb6;replace h1:=h1.belw hb6;replace h2:=h2.belw hb6;(try clear sc sf sr sz);obtain ⟨⟨sc,sf⟩,sr,sz⟩:=bj.of (by omega) hs0 hm0 r6)
   | (go_at_call 140;(with_reducible refine (fY _ (WD.s ⟨b,l⟩) A3 n3 c3 (am (val (WD.m ⟨b,l⟩)+val (WD.m ⟨b',l'⟩))) ?_ ?_).mono ?_);(exact h3);(rw [h3.2.1];exact tw h1 h2 hn1 hn2 (by decide));rintro e w7 ⟨A4,n4,c4,rfl,h4,hb7⟩;have r7:=ah r6 hb7;replace wa:=wa.belw hb7;replace wb:=wb.belw hb7;replace h1:=h1.belw hb7;replace h2:=h2.belw hb7;replace h3:=h3.belw hb7;(try clear sc sf sr sz);obtain ⟨⟨sc,sf⟩,sr,sz⟩:=bj.of (by omega) hs0 hm0 r7))
  rw [ag,← HZ.out] at h4;refine bodyPost_ret (v:=.agg #[.bool _,.slice A4 n4 c4]) (by simp [results,Tryz.results99,go_sem,sr];rfl) rfl ?_;have x:=x2.below r7;refine jB ?_ ?_ ?_
  ·rw [HZ.out,ag]
  ·exact h4.keep (kp2 x (by decide) _ _ _ _)
  exact ((b0.trans (r7.mono b0.size)).setCell (by dsimp only;omega) _).setCell (by dsimp only;omega) _
 have hs':(WD.s ⟨b,l⟩ == WD.s ⟨b',l'⟩)=false:=by simp [hs]
 rw [hs'];clear hs';by_cases hv:val (WD.m ⟨b',l'⟩)≤val (WD.m ⟨b,l⟩)
 ·have hd:decide ((0:Int)≤bq (val (WD.m ⟨b,l⟩)) (val (WD.m ⟨b',l'⟩)))=true:=by simp [qI,hv]
  have HZ:=Qh (yo (a:=⟨b,l⟩) (b:=⟨b',l'⟩) hs hv);have HV:=Qh hv;clear hs hv;have hlen:n2≤n1:=tu h2 h1 hcm2 hcm1 (HV.out)
  go_wp2_with (first
   | (go_at_call 119;(with_reducible refine (dI _ A1 n1 c1 (WD.m ⟨b,l⟩) ?_ ?_ A2 n2 c2 (WD.m ⟨b',l'⟩) ?_ ?_ hcm1 hcm2).mono ?_);(exact h1);(omega);(exact h2);(omega);rintro e w5 ⟨rfl,hb5⟩;have r5:=ah r4 hb5;replace wa:=wa.belw hb5;replace wb:=wb.belw hb5;replace h1:=h1.belw hb5;replace h2:=h2.belw hb5;(try clear sc sf sr sz);obtain ⟨⟨sc,sf⟩,sr,sz⟩:=bj.of (by omega) hs0 hm0 r5)
   | (go_at_call 121;(with_reducible refine (iw _ b A n c l ?_ ?_).mono ?_);(exact wa);(omega);rintro e w6 ⟨rfl,hb6⟩;have r6:=ah r5 hb6;replace wa:=wa.belw hb6;replace wb:=wb.belw hb6;replace h1:=h1.belw hb6;replace h2:=h2.belw hb6;(try clear sc sf sr sz);obtain ⟨⟨sc,sf⟩,sr,sz⟩:=bj.of (by omega) hs0 hm0 r6)
   | (go_at_call 142;(with_reducible refine (pz _ A1 n1 c1 (WD.m ⟨b,l⟩) ?_ ?_ A2 n2 c2 (WD.m ⟨b',l'⟩) ?_ ?_ ?_).mono ?_);(exact h1);(omega);(exact h2);(exact hlen);(exact HV.out);rintro e w7 ⟨A3,n3,c3,rfl,h3,hb7⟩;have r7:=ah r6 hb7;replace wa:=wa.belw hb7;replace wb:=wb.belw hb7;replace h1:=h1.belw hb7;replace h2:=h2.belw hb7;(try clear sc sf sr sz);obtain ⟨⟨sc,sf⟩,sr,sz⟩:=bj.of (by omega) hs0 hm0 r7)
   | (go_at_call 140;(with_reducible refine (fY _ (WD.s ⟨b,l⟩) A3 n3 c3 (am (val (WD.m ⟨b,l⟩) - val (WD.m ⟨b',l'⟩))) ?_ ?_).mono ?_);(exact h3);(rw [h3.2.1];exact pt (Nat.lt_of_le_of_lt (Nat.sub_le _ _) (h1.vlt hn1)) (by decide));rintro e w8 ⟨A4,n4,c4,rfl,h4,hb8⟩;have r8:=ah r7 hb8;replace wa:=wa.belw hb8;replace wb:=wb.belw hb8;replace h1:=h1.belw hb8;replace h2:=h2.belw hb8;replace h3:=h3.belw hb8;(try clear sc sf sr sz);obtain ⟨⟨sc,sf⟩,sr,sz⟩:=bj.of (by omega) hs0 hm0 r8))
  rw [ag,← HZ.out] at h4;refine bodyPost_ret (v:=.agg #[.bool _,.slice A4 n4 c4]) (by simp [results,Tryz.results99,go_sem,sr];rfl) rfl ?_;have x:=x2.below r8;refine jB ?_ ?_ ?_
  ·rw [HZ.out,ag]
  ·exact h4.keep (kp2 x (by decide) _ _ _ _)
  exact ((b0.trans (r8.mono b0.size)).setCell (by dsimp only;omega) _).setCell (by dsimp only;omega) _
 have hd:decide ((0:Int)≤bq (val (WD.m ⟨b,l⟩)) (val (WD.m ⟨b',l'⟩)))=false:=by simp [qI];omega
 have HZ:=Qh (yp (a:=⟨b,l⟩) (b:=⟨b',l'⟩) hs (by omega));have HV:=Qh hv;clear hs hv;have hlen:n1≤n2:=tu h1 h2 hcm1 hcm2 (Nat.le_of_not_le HV.out)
 go_wp2_with (first
  | (go_at_call 119;(with_reducible refine (dI _ A1 n1 c1 (WD.m ⟨b,l⟩) ?_ ?_ A2 n2 c2 (WD.m ⟨b',l'⟩) ?_ ?_ hcm1 hcm2).mono ?_);(exact h1);(omega);(exact h2);(omega);rintro e w5 ⟨rfl,hb5⟩;have r5:=ah r4 hb5;replace wa:=wa.belw hb5;replace wb:=wb.belw hb5;replace h1:=h1.belw hb5;replace h2:=h2.belw hb5;(try clear sc sf sr sz);obtain ⟨⟨sc,sf⟩,sr,sz⟩:=bj.of (by omega) hs0 hm0 r5)
  | (go_at_call 121;(with_reducible refine (iw _ b' A' n' c' l' ?_ ?_).mono ?_);(exact wb);(omega);rintro e w6 ⟨rfl,hb6⟩;have r6:=ah r5 hb6;replace wa:=wa.belw hb6;replace wb:=wb.belw hb6;replace h1:=h1.belw hb6;replace h2:=h2.belw hb6;(try clear sc sf sr sz);obtain ⟨⟨sc,sf⟩,sr,sz⟩:=bj.of (by omega) hs0 hm0 r6)
  | (go_at_call 142;(with_reducible refine (pz _ A2 n2 c2 (WD.m ⟨b',l'⟩) ?_ ?_ A1 n1 c1 (WD.m ⟨b,l⟩) ?_ ?_ ?_).mono ?_);(exact h2);(omega);(exact h1);(exact hlen);(exact Nat.le_of_not_le HV.out);rintro e w7 ⟨A3,n3,c3,rfl,h3,hb7⟩;have r7:=ah r6 hb7;replace wa:=wa.belw hb7;replace wb:=wb.belw hb7;replace h1:=h1.belw hb7;replace h2:=h2.belw hb7;(try clear sc sf sr sz);obtain ⟨⟨sc,sf⟩,sr,sz⟩:=bj.of (by omega) hs0 hm0 r7)
  | (go_at_call 140;(with_reducible refine (fY _ (WD.s ⟨b',l'⟩) A3 n3 c3 (am (val (WD.m ⟨b',l'⟩) - val (WD.m ⟨b,l⟩))) ?_ ?_).mono ?_);(exact h3);(rw [h3.2.1];exact pt (Nat.lt_of_le_of_lt (Nat.sub_le _ _) (h2.vlt hn2)) (by decide));rintro e w8 ⟨A4,n4,c4,rfl,h4,hb8⟩;have r8:=ah r7 hb8;replace wa:=wa.belw hb8;replace wb:=wb.belw hb8;replace h1:=h1.belw hb8;replace h2:=h2.belw hb8;replace h3:=h3.belw hb8;(try clear sc sf sr sz);obtain ⟨⟨sc,sf⟩,sr,sz⟩:=bj.of (by omega) hs0 hm0 r8))
 rw [ag,← HZ.out] at h4;refine bodyPost_ret (v:=.agg #[.bool _,.slice A4 n4 c4]) (by simp [results,Tryz.results99,go_sem,sr];rfl) rfl ?_;have x:=x2.below r8;refine jB ?_ ?_ ?_
 ·rw [HZ.out,ag]
 ·exact h4.keep (kp2 x (by decide) _ _ _ _)
 exact ((b0.trans (r8.mono b0.size)).setCell (by dsimp only;omega) _).setCell (by dsimp only;omega) _

theorem pA {x y o cr:Nat}(hx:x < 4294967296) (hy:y < 4294967296) (ho:o < 4294967296) (hc:cr < 4294967296) {p q s:Int}(h1:IntKind.u64.wrap ((x:Int) * (y:Int))=p) (h2:IntKind.u64.wrap (p+(o:Int))=q) (h3:IntKind.u64.wrap ((cr:Int)+q)=s) :
 s=((cr+x * y+o:Nat):Int)∧(cr+x * y+o) / 4294967296 < 4294967296:=by
 rw [IntKind.wrap_u64] at h1 h2 h3;have hxy:x * y≤4294967295 * 4294967295:=Nat.mul_le_mul (by omega) (by omega);have e:(x:Int) * (y:Int)=((x * y:Nat):Int):=by simp
 rw [e] at h1;generalize x * y=z at *;omega
def yq (l l' L:List Nat) (N n' i:Nat):Prop:=Wds L∧(∀ j,i+n'≤j→wd L j=0)∧Sm (wd L) N=Sm (wd l) i * val l'
def yr (l l' L:List Nat) (N n' i x k cr:Nat):Prop:=Wds L∧(∀ j,i+n'≤j→wd L j=0)∧Sm (wd L) N+cr * 4294967296 ^ (i+k)=Sm (wd l) i * val l'+x * Sm (wd l') k * 4294967296 ^ i
theorem qJ (w:World) (A n c l) (wa:Wd w A n c l) (hn:n≤1099511627776) (A' n' c' l') (wb:Wd w A' n' c' l') (hn':n'≤1099511627776) :
 Calls Tryz.prog 143 #[.slice A n c,.slice A' n' c'] w (fm w (am (val l * val l'))):=by
 have HL:=Qh wa.2.1;have HL':=Qh wb.2.1;go_in;go_wp2_with (at_make;refine aL _ rfl _ _ rfl _ _ _ _ (n+n') rfl rfl (by omega) (by omega) (by omega) ?_);go_loopw [19] (fun iv wr=>∃ (i:Nat) (L:List Nat),i≤n∧iv=.int .i64 (i:Nat)∧L.length=n+n'∧yq l l' L (n+n') n' i∧Blk wr w.heap.size 173 (cellsOf L)∧Below w.heap.size w wr) (fun iv _=>n - (intOf iv).toNat)
 case atStart =>
  refine ⟨0,List.replicate (n+n') 0,Nat.zero_le _,rfl,by simp,⟨by intro x hx;rw [List.eq_of_mem_replicate hx];omega,fun j _=>?_,?_⟩,Blk.new _ _ _,(Below.refl _ _).alloc Qr _⟩
  ·unfold wd;by_cases hj:j < n+n' <;> simp [List.getD,hj]
  rw [Sm]
  have:∀ m,Sm (wd (List.replicate (n+n') 0)) m=0:=by
   intro m
   induction m with
   | zero=>rfl
   | succ m ih =>
    rw [Sm,ih];unfold wd;by_cases hj:m < n+n' <;> simp [List.getD,hj]
  rw [this];simp
 case round =>
  obtain ⟨i,L,hi,rfl,hLM,hI,hB,hbel⟩:=hrel;have hKp:=Qh ((Kp.refl w).below hbel);have HI:=Qh hI;have HB:=Qh hB;have HLM:=Qh hLM;clear hI hB hLM;by_cases hkM:i < n
  ·obtain ⟨g,o,rfl,hgl,hc1⟩:=(wa.keep hKp.out).at2 (by omega)
   have hcx:=hc1 i hkM;obtain ⟨x,hx⟩:∃ x,wd l i=x:=⟨_,rfl⟩;have hx1:x < 4294967296:=by rw [← hx];exact wa.lt i
   rw [hx] at hcx;have HX:=Qh hx;clear hx hc1;go_wp2_with fail;obtain ⟨wo,hwo⟩:∃ wo:World,wo=wr:=⟨_,rfl⟩;have HWO:=Qh hwo;clear hwo;go_loopw [8,26] (fun cv kv w2=>∃ (k cr:Nat) (L2:List Nat),k≤n'∧kv=.int .i64 (k:Nat)∧cv=.int .u64 (cr:Nat)∧cr < 4294967296∧L2.length=n+n'∧yr l l' L2 (n+n') n' i x k cr∧Blk w2 w.heap.size 173 (cellsOf L2)∧Below w.heap.size w w2) (fun _ kv _=>n' - (intOf kv).toNat)
   case atStart=>exact ⟨0,0,L,Nat.zero_le _,rfl,rfl,by omega,HLM.out,⟨HI.out.1,HI.out.2.1,by rw [HI.out.2.2];simp [Sm]⟩,HB.out,hbel⟩
   case round =>
    obtain ⟨k,cr,L2,hk,rfl,rfl,hcr,hLM2,hI2,hB2,hbel2⟩:=hrel;have hKp2:=Qh ((Kp.refl w).below hbel2);have HI2:=Qh hI2;have HB2:=Qh hB2;have HLM2:=Qh hLM2;clear hI2 hB2 hLM2;by_cases hkk:k < n'
    ·obtain ⟨g2,o2,rfl,hgl2,hc2⟩:=(wb.keep hKp2.out).at2 (by omega)
     have hcy:=hc2 k hkk;obtain ⟨y,z,hy,hz⟩:∃ y z,wd l' k=y∧wd L2 (i+k)=z:=⟨_,_,rfl,rfl⟩;have hy1:y < 4294967296:=by rw [← hy];exact wb.lt k
     have hz1:z < 4294967296:=by rw [← hz];exact bF HI2.out.1 _
     rw [hy] at hcy;have hck:=HB2.out.cell (i+k);rw [az (by rw [HLM2.out];omega),hz] at hck;have hfk:=HB2.out.frozen (i+k);have HY:=Qh hy;have HZ:=Qh hz;clear hy hz hc2;obtain ⟨p,hp⟩:∃ d,IntKind.u64.wrap ((x:Int) * (y:Int))=d:=⟨_,rfl⟩;obtain ⟨q,hq⟩:∃ d,IntKind.u64.wrap (p+(z:Int))=d:=⟨_,rfl⟩;obtain ⟨s,hs⟩:∃ d,IntKind.u64.wrap ((cr:Int)+q)=d:=⟨_,rfl⟩;have HD:=Qh (pA hx1 hy1 hz1 hcr hp hq hs);go_wp2;obtain ⟨es,hs2⟩:=HD.out;clear hp hq hs;go_roundw
     case rel =>
      refine ⟨k+1,(cr+x * y+z) / 4294967296,L2.set (i+k) ((cr+x * y+z) % 4294967296),by omega,by go_num,by rw [es];go_num,hs2,by rw [List.length_set];exact HLM2.out,⟨wds_set HI2.out.1 _ (Nat.mod_lt _ (by omega)),?_,?_⟩,?_,hbel2.setCell Qr _⟩
      ·intro j hj;rw [bP,if_neg (by omega)];exact HI2.out.2.1 j hj
      ·have hm:=fl L2 (i+k) ((cr+x * y+z) % 4294967296) (n+n') (by rw [HLM2.out];omega) (by omega)
       rw [HZ.out] at hm;have ht:=pw (o:=z) (x:=x) (y:=y) (Sb:=Sm (wd l') k) (Pi:=4294967296 ^ i) (Pk:=4294967296 ^ k) HI2.out.2.2 (by rw [Nat.pow_add]) hm;rw [← Nat.add_assoc,Nat.pow_succ,Sm,HY.out];exact ht
      exact HB2.out.setW (i+k) _ _ (by rw [es];omega)
     case measure=>simp [intOf];omega
    have hk2:k=n':=by omega
    have HK2:=Qh hk2;have hck:=HB2.out.cell (i+n');have hz:wd L2 (i+n')=0:=HI2.out.2.1 _ (by omega);rw [az (by rw [HLM2.out];omega),hz] at hck;have hfk:=HB2.out.frozen (i+n');have hge:n'≤k:=by omega
    clear hk2 hkk hz;go_wp2;go_roundw
    case rel =>
     refine ⟨i+1,L2.set (i+n') cr,by omega,by go_num,by rw [List.length_set];exact HLM2.out,⟨wds_set HI2.out.1 _ hcr,?_,?_⟩,?_,hbel2.setCell Qr _⟩
     ·intro j hj;rw [bP,if_neg (by omega)];exact HI2.out.2.1 j (by omega)
     ·have hm:=fl L2 (i+n') cr (n+n') (by rw [HLM2.out];omega) (by omega)
      rw [HI2.out.2.1 _ (by omega),Nat.zero_mul,Nat.add_zero] at hm;have h2:=HI2.out.2.2;rw [HK2.out,aX l' (by rw [← HL'.out];exact Qr)] at h2;rw [hm,h2,Sm,HX.out,Nat.add_mul];congr 1;rw [Nat.mul_assoc,Nat.mul_comm (val l'),← Nat.mul_assoc]
     exact HB2.out.setW (i+n') _ _ rfl
    case measure=>simp [intOf];omega
  have hkk:i=n:=by omega
  subst hkk
  have hv2:val L=val l * val l':=by
   have h1:=HI.out.2.2;rw [aX L (by rw [HLM.out];exact Qr),aX l (by rw [← HL.out];omega)] at h1;exact h1
  have HV2:=Qh hv2;clear hv2;go_wp2_with fail;refine (eH _ _ (i+n') (i+n') L ?_ ?_).mono ?_
  ·exact HB.out.wdN HI.out.1 HLM.out
  ·omega
  rintro e w1 ⟨A1,n1,c1,rfl,h1,hb1⟩;go_wp2;go_ret;rw [HV2.out] at h1;exact ⟨_,_,_,rfl,h1,hbel.trans (hb1.mono hbel.size)⟩

theorem xT (a:WD):-a.z=sgn (!a.s) (val a.m):=by
 rw [a.z_eq];cases a.s <;> simp [sgn]
theorem zK (a b:WD):a.z * b.z=sgn (!(a.s == b.s)) (val a.m * val b.m):=by
 rw [a.z_eq,b.z_eq];cases a.s <;> cases b.s <;> simp [sgn,Int.neg_mul,Int.mul_neg]
theorem zL (w:World) (b:Bool) (A n c l) (wa:Wd w A n c l) (hn:n≤1099511627000) :
 Calls Tryz.prog 115 #[.agg #[.bool b,.slice A n c]] w (ia w (wh (-WD.z ⟨b,l⟩))):=by
 have HL:=Qh wa.2.1;go_in;go_wp2_with fail;have b0:Below w.heap.size w ((w.alloc (.cells #[.bool b,.slice A n c] 134)).alloc (.cells #[.bool false,.slice none 0 0] 134)):=(((Below.refl _ _).alloc Qr _).alloc (by simp) _);generalize hW0:((w.alloc (.cells #[.bool b,.slice A n c] 134)).alloc (.cells #[.bool false,.slice none 0 0] 134))=W0 at b0 ⊢;have c00:W0.cell? ⟨w.heap.size,0,none⟩=some (.bool b):=by subst hW0;simp [go_sem]
 have f00:W0.frozen? ⟨w.heap.size,0,none⟩=false:=by subst hW0;simp [go_sem]
 have c01:W0.cell? ⟨w.heap.size,1,none⟩=some (.slice A n c):=by subst hW0;simp [go_sem]
 have f01:W0.frozen? ⟨w.heap.size,1,none⟩=false:=by subst hW0;simp [go_sem]
 have c10:W0.cell? ⟨w.heap.size+1,0,none⟩=some (.bool false):=by subst hW0;simp [go_sem]
 have f10:W0.frozen? ⟨w.heap.size+1,0,none⟩=false:=by subst hW0;simp [go_sem]
 have c11:W0.cell? ⟨w.heap.size+1,1,none⟩=some (.slice none 0 0):=by subst hW0;simp [go_sem]
 have f11:W0.frozen? ⟨w.heap.size+1,1,none⟩=false:=by subst hW0;simp [go_sem]
 have x0:Box W0 w.heap.size 134:=by subst hW0;exact (bG _ _ _ (by simp)).alloc _
 have x1:Box W0 (w.heap.size+1) 134:=by subst hW0;exact bG _ _ _ (by simp)
 have hm0:ix (w.heap.size+1) (w.heap.size+1+1) 2 W0:=by subst hW0;exact lL (by simp)
 have hs0:w.heap.size+1+1≤W0.heap.size:=by subst hW0;simp
 clear hW0;have wa:=wa.belw b0;have r0:Below W0.heap.size W0 W0:=aa _;have hRB:w.heap.size+1≤w.heap.size+1+1:=by omega
 go_region_held3 (fun w'=>Sees (w.heap.size+1) W0 w') (first | exact Sees.of (Nat.le_trans hRB hs0) (by assumption) | exact Sees.of (Nat.le_trans hRB hs0) (af (by assumption) _) | exact (Sees.set (Sees.of (Nat.le_trans hRB hs0) (by assumption)) (by simp)) | exact (Sees.set (Sees.set (Sees.of (Nat.le_trans hRB hs0) (by assumption)) (by simp)) (by simp)))
  (first
   | (go_at_call 121;(with_reducible refine (iw _ b A n c l ?_ ?_).mono ?_);(exact wa);(omega);rintro e w1 ⟨rfl,hb1⟩;replace hb1:=ah (af (aa _) 1) hb1;have r1:=ah r0 hb1;replace wa:=wa.belw hb1)
   | (go_at_call 120;(with_reducible refine (dQ _ b A n c l ?_ ?_).mono ?_);(exact wa);(omega);rintro e w2 ⟨A1,n1,c1,rfl,h1,hb2⟩;have r2:=ah r1 hb2;replace wa:=wa.belw hb2)
   | (go_at_call 140;(with_reducible refine (cR _ (!WD.s ⟨b,l⟩) A1 n1 c1 (WD.m ⟨b,l⟩) (-WD.z ⟨b,l⟩) ?_ ?_ ?_).mono ?_);(exact h1);(exact Nat.le_trans (h1.m_len (by rw [← HL.out];exact hn)) (by decide));(exact (xT _).symm);rintro e w3 ⟨A2,n2,c2,rfl,h2,hb3⟩;have r3:=ah r2 hb3;replace wa:=wa.belw hb3;replace h1:=h1.belw hb3;obtain ⟨⟨sc,sf⟩,sr,sz⟩:=bj.of (by omega) hs0 hm0 r3))
 clear hRB;go_wp2_with fail;refine bodyPost_ret (v:=.agg #[.bool _,.slice A2 n2 c2]) (by simp [results,Tryz.results115,go_sem,sr];rfl) rfl ?_;have x:=x1.below r3;refine jB ?_ ?_ ?_
 ·rfl
 ·exact h2.keep (kp2 x (by decide) _ _ _ _)
 exact ((b0.trans (r3.mono b0.size)).setCell (by dsimp only;omega) _).setCell (by dsimp only;omega) _
theorem zM (w:World) (b:Bool) (A n c l) (wa:Wd w A n c l) (hn:n≤500000000000) (b':Bool) (A' n' c' l') (wb:Wd w A' n' c' l') (hn':n'≤500000000000) :
 Calls Tryz.prog 100 #[.agg #[.bool b,.slice A n c],.agg #[.bool b',.slice A' n' c']] w (ia w (wh (WD.z ⟨b,l⟩ * WD.z ⟨b',l'⟩))):=by
 have HL:=Qh wa.2.1;have HL':=Qh wb.2.1;go_in;go_wp2_with fail;have b0:Below w.heap.size w (((w.alloc (.cells #[.bool b,.slice A n c] 134)).alloc (.cells #[.bool b',.slice A' n' c'] 134)).alloc (.cells #[.bool false,.slice none 0 0] 134)):=((((Below.refl _ _).alloc Qr _).alloc (by simp) _).alloc (by simp;omega) _);generalize hW0:(((w.alloc (.cells #[.bool b,.slice A n c] 134)).alloc (.cells #[.bool b',.slice A' n' c'] 134)).alloc (.cells #[.bool false,.slice none 0 0] 134))=W0 at b0 ⊢;have c00:W0.cell? ⟨w.heap.size,0,none⟩=some (.bool b):=by subst hW0;simp [go_sem]
 have f00:W0.frozen? ⟨w.heap.size,0,none⟩=false:=by subst hW0;simp [go_sem]
 have c01:W0.cell? ⟨w.heap.size,1,none⟩=some (.slice A n c):=by subst hW0;simp [go_sem]
 have f01:W0.frozen? ⟨w.heap.size,1,none⟩=false:=by subst hW0;simp [go_sem]
 have c10:W0.cell? ⟨w.heap.size+1,0,none⟩=some (.bool b'):=by subst hW0;simp [go_sem]
 have f10:W0.frozen? ⟨w.heap.size+1,0,none⟩=false:=by subst hW0;simp [go_sem]
 have c11:W0.cell? ⟨w.heap.size+1,1,none⟩=some (.slice A' n' c'):=by subst hW0;simp [go_sem]
 have f11:W0.frozen? ⟨w.heap.size+1,1,none⟩=false:=by subst hW0;simp [go_sem]
 have c20:W0.cell? ⟨w.heap.size+1+1,0,none⟩=some (.bool false):=by subst hW0;simp [go_sem]
 have f20:W0.frozen? ⟨w.heap.size+1+1,0,none⟩=false:=by subst hW0;simp [go_sem]
 have c21:W0.cell? ⟨w.heap.size+1+1,1,none⟩=some (.slice none 0 0):=by subst hW0;simp [go_sem]
 have f21:W0.frozen? ⟨w.heap.size+1+1,1,none⟩=false:=by subst hW0;simp [go_sem]
 have x0:Box W0 w.heap.size 134:=by subst hW0;exact ((bG _ _ _ (by simp)).alloc _).alloc _
 have x1:Box W0 (w.heap.size+1) 134:=by subst hW0;exact (bG _ _ _ (by simp)).alloc _
 have x2:Box W0 (w.heap.size+1+1) 134:=by subst hW0;exact bG _ _ _ (by simp)
 have hm0:ix (w.heap.size+1+1) (w.heap.size+1+1+1) 2 W0:=by subst hW0;exact lL (by simp)
 have hs0:w.heap.size+1+1+1≤W0.heap.size:=by subst hW0;simp
 clear hW0;have wa:=wa.belw b0;have wb:=wb.belw b0;have r0:Below W0.heap.size W0 W0:=aa _;have hRB:w.heap.size+1+1≤w.heap.size+1+1+1:=by omega
 go_region_held3 (fun w'=>Sees (w.heap.size+1+1) W0 w') (first | exact Sees.of (Nat.le_trans hRB hs0) (by assumption) | exact Sees.of (Nat.le_trans hRB hs0) (af (by assumption) _) | exact (Sees.set (Sees.of (Nat.le_trans hRB hs0) (by assumption)) (by simp)) | exact (Sees.set (Sees.set (Sees.of (Nat.le_trans hRB hs0) (by assumption)) (by simp)) (by simp)))
  (first
   | (go_at_call 121;(with_reducible refine (iw _ b A n c l ?_ ?_).mono ?_);(exact wa);(omega);rintro e w1 ⟨rfl,hb1⟩;replace hb1:=ah (af (aa _) 1) hb1;have r1:=ah r0 hb1;replace wa:=wa.belw hb1;replace wb:=wb.belw hb1)
   | (go_at_call 121;(with_reducible refine (iw _ b' A' n' c' l' ?_ ?_).mono ?_);(exact wb);(omega);rintro e w2 ⟨rfl,hb2⟩;have r2:=ah r1 hb2;replace wa:=wa.belw hb2;replace wb:=wb.belw hb2)
   | (go_at_call 120;(with_reducible refine (dQ _ b A n c l ?_ ?_).mono ?_);(exact wa);(omega);rintro e w3 ⟨A1,n1,c1,rfl,h1,hb3⟩;have r3:=ah r2 hb3;replace wa:=wa.belw hb3;replace wb:=wb.belw hb3)
   | (go_at_call 120;(with_reducible refine (dQ _ b' A' n' c' l' ?_ ?_).mono ?_);(exact wb);(omega);rintro e w4 ⟨A2,n2,c2,rfl,h2,hb4⟩;have r4:=ah r3 hb4;replace wa:=wa.belw hb4;replace wb:=wb.belw hb4;replace h1:=h1.belw hb4)
   | (go_at_call 143;(with_reducible refine (qJ _ A1 n1 c1 (WD.m ⟨b,l⟩) ?_ ?_ A2 n2 c2 (WD.m ⟨b',l'⟩) ?_ ?_).mono ?_);(exact h1);(exact Nat.le_trans (h1.m_len (by rw [← HL.out];exact hn)) (by decide));(exact h2);(exact Nat.le_trans (h2.m_len (by rw [← HL'.out];exact hn')) (by decide));rintro e w5 ⟨A3,n3,c3,rfl,h3,hb5⟩;have r5:=ah r4 hb5;replace wa:=wa.belw hb5;replace wb:=wb.belw hb5;replace h1:=h1.belw hb5;replace h2:=h2.belw hb5)
   | (go_at_call 140;(with_reducible refine (cR _ (!(WD.s ⟨b,l⟩ == WD.s ⟨b',l'⟩)) A3 n3 c3 (am (val (WD.m ⟨b,l⟩) * val (WD.m ⟨b',l'⟩))) (WD.z ⟨b,l⟩ * WD.z ⟨b',l'⟩) ?_ ?_ ?_).mono ?_);(exact h3);(rw [h3.2.1];exact rK h1 h2 (Nat.le_trans (Nat.add_le_add (h1.m_len (by rw [← HL.out];exact hn)) (h2.m_len (by rw [← HL'.out];exact hn'))) (by decide)));(rw [ag];exact (zK _ _).symm);rintro e w6 ⟨A4,n4,c4,rfl,h4,hb6⟩;have r6:=ah r5 hb6;replace wa:=wa.belw hb6;replace wb:=wb.belw hb6;replace h1:=h1.belw hb6;replace h2:=h2.belw hb6;replace h3:=h3.belw hb6;obtain ⟨⟨sc,sf⟩,sr,sz⟩:=bj.of (by omega) hs0 hm0 r6))
 clear hRB;go_wp2_with fail;refine bodyPost_ret (v:=.agg #[.bool _,.slice A4 n4 c4]) (by simp [results,Tryz.results100,go_sem,sr];rfl) rfl ?_;have x:=x2.below r6;refine jB ?_ ?_ ?_
 ·rfl
 ·exact h4.keep (kp2 x (by decide) _ _ _ _)
 exact ((b0.trans (r6.mono b0.size)).setCell (by dsimp only;omega) _).setCell (by dsimp only;omega) _

theorem iy (b:Bool) (n:Nat):(sgn b n).sign=if n=0 then 0 else if b then -1 else 1:=by
 unfold sgn;by_cases h0:n=0
 ·subst h0;cases b <;> rfl
 rw [if_neg h0];cases b
 ·exact Int.sign_eq_one_of_pos (by simp;omega)
 exact Int.sign_eq_neg_one_of_neg (by simp;omega)
theorem wg {a:WD}(h:a.m=[]):a.z.sign=0:=by rw [a.z_eq,iy,h];rfl
theorem wm {a:WD}(hw:Wds a.mag) (h:a.m≠[]):a.z.sign=if a.neg then -1 else 1:=by
 have h1:val a.m≠0:=fun e=>h ((cN (WD.canon_m hw)).1 e)
 rw [a.z_eq,iy,if_neg h1];have h2:a.ok=true:=by cases hk:a.ok <;> simp_all [WD.m]
 simp [WD.s,h2]
def eI (x y:Int):Int:=if x < y then -1 else if x=y then 0 else 1
theorem mq {x y:Int}(h:x.sign < y.sign):eI x y=-1:=by
 unfold eI;rw [if_pos];rcases Int.lt_trichotomy x 0 with h1 | h1 | h1 <;> rcases Int.lt_trichotomy y 0 with h2 | h2 | h2 <;> simp_all [Int.sign_eq_neg_one_of_neg,Int.sign_eq_one_of_pos] <;> omega
theorem mr {x y:Int}(h:y.sign < x.sign):eI x y=1:=by
 have h3:y < x:=by
  rcases Int.lt_trichotomy x 0 with h1 | h1 | h1 <;> rcases Int.lt_trichotomy y 0 with h2 | h2 | h2 <;> simp_all [Int.sign_eq_neg_one_of_neg,Int.sign_eq_one_of_pos] <;> omega
 unfold eI;rw [if_neg (by omega),if_neg (by omega)]
theorem rL {a b:WD}(ha:Wds a.mag) (hb:Wds b.mag) (h:a.z.sign=b.z.sign):eI a.z b.z=if a.s then -bq (val a.m) (val b.m) else bq (val a.m) (val b.m):=by
 have h0:∀ {x:WD},Wds x.mag→val x.m=0→x.s=false:=by
  intro x hx e;have e1:=(cN (WD.canon_m hx)).1 e;unfold WD.m at e1;cases hk:x.ok
  ·simp [WD.s,hk]
  rw [hk,if_pos rfl] at e1;have:=((WD.ok_iff hx).1 hk).2 e1;simp [WD.s,this]
 rw [a.z_eq,b.z_eq] at h ⊢;rw [iy,iy] at h;have ha0:=@h0 a ha;have hb0:=@h0 b hb;by_cases h1:val a.m=0 <;> by_cases h2:val b.m=0 <;> cases hsa:a.s <;> cases hsb:b.s <;> simp_all [sgn,eI,bq] <;> (repeat' split) <;> omega
theorem ww (a b:Nat):-1≤bq a b∧bq a b≤1:=by
 unfold bq;split
 ·omega
 split <;> omega
theorem tD (w:World) (b:Bool) (A n c l) (wa:Wd w A n c l) (hn:n≤1099511627000) :
 Calls Tryz.prog 118 #[.agg #[.bool b,.slice A n c]] w (aB w (.int .i64 (WD.z ⟨b,l⟩).sign)):=by
 have HL:=Qh wa.2.1;have hwds:=wa.1;by_cases hm:(WD.m ⟨b,l⟩)=[]
 ·have HM:=Qh hm
  clear hm;go_in;go_wp2_with fail;have b0:Below w.heap.size w (w.alloc (.cells #[.bool b,.slice A n c] 134)):=((Below.refl _ _).alloc Qr _);generalize hW0:(w.alloc (.cells #[.bool b,.slice A n c] 134))=W0 at b0 ⊢;have c00:W0.cell? ⟨w.heap.size,0,none⟩=some (.bool b):=by subst hW0;simp [go_sem]
  have f00:W0.frozen? ⟨w.heap.size,0,none⟩=false:=by subst hW0;simp [go_sem]
  have c01:W0.cell? ⟨w.heap.size,1,none⟩=some (.slice A n c):=by subst hW0;simp [go_sem]
  have f01:W0.frozen? ⟨w.heap.size,1,none⟩=false:=by subst hW0;simp [go_sem]
  have x0:Box W0 w.heap.size 134:=by subst hW0;exact bG _ _ _ (by simp)
  have hm0:ix (w.heap.size+1) (w.heap.size+1) 0 W0:=fun b h1 h2=>by omega
  have hs0:w.heap.size+1≤W0.heap.size:=by subst hW0;simp
  clear hW0;have wa:=wa.belw b0;have r0:Below W0.heap.size W0 W0:=aa _
  go_wp2_with (first
   | (go_at_call 120;(with_reducible refine (dQ _ b A n c l ?_ ?_).mono ?_);(exact wa);(omega);rintro e w1 ⟨A1,n1,c1,rfl,h1,hb1⟩;have e1:((n1:Int) == 0)=true:=(by have:=h1.2.1;rw [HM.out] at this;simp at this;simp [this]);have r1:=ah r0 hb1;replace wa:=wa.belw hb1;(try clear sc sf sr sz);obtain ⟨⟨sc,sf⟩,sr,sz⟩:=bj.of (by omega) hs0 hm0 r1))
  go_ret;refine cJ ?_ (b0.trans (r1.mono b0.size));rw [wg HM.out]
 have HM:=Qh hm;clear hm;go_in;go_wp2_with fail;have b0:Below w.heap.size w (w.alloc (.cells #[.bool b,.slice A n c] 134)):=((Below.refl _ _).alloc Qr _);generalize hW0:(w.alloc (.cells #[.bool b,.slice A n c] 134))=W0 at b0 ⊢;have c00:W0.cell? ⟨w.heap.size,0,none⟩=some (.bool b):=by subst hW0;simp [go_sem]
 have f00:W0.frozen? ⟨w.heap.size,0,none⟩=false:=by subst hW0;simp [go_sem]
 have c01:W0.cell? ⟨w.heap.size,1,none⟩=some (.slice A n c):=by subst hW0;simp [go_sem]
 have f01:W0.frozen? ⟨w.heap.size,1,none⟩=false:=by subst hW0;simp [go_sem]
 have x0:Box W0 w.heap.size 134:=by subst hW0;exact bG _ _ _ (by simp)
 have hm0:ix (w.heap.size+1) (w.heap.size+1) 0 W0:=fun b h1 h2=>by omega
 have hs0:w.heap.size+1≤W0.heap.size:=by subst hW0;simp
 clear hW0;have wa:=wa.belw b0;have r0:Below W0.heap.size W0 W0:=aa _
 go_wp2_with (first
  | (go_at_call 120;(with_reducible refine (dQ _ b A n c l ?_ ?_).mono ?_);(exact wa);(omega);rintro e w1 ⟨A1,n1,c1,rfl,h1,hb1⟩;have e1:((n1:Int) == 0)=false:=(by have:=h1.2.1;have h9:=HM.out;have h8:n1≠0:=(fun e=>h9 (List.eq_nil_of_length_eq_zero (by omega)));simp;omega);have r1:=ah r0 hb1;replace wa:=wa.belw hb1;(try clear sc sf sr sz);obtain ⟨⟨sc,sf⟩,sr,sz⟩:=bj.of (by omega) hs0 hm0 r1))
 all_goals go_ret
 all_goals refine cJ ?_ (b0.trans (r1.mono b0.size))
 all_goals rw [wm (a:=⟨b,l⟩) hwds HM.out];simp_all
theorem tE (w:World) (b:Bool) (A:Option Addr) (n c:Nat) (l:List Nat) (s:Int) (wa:Wd w A n c l) (hn:n≤1099511627000) (hs:(WD.z ⟨b,l⟩).sign=s) :
 Calls Tryz.prog 118 #[.agg #[.bool b,.slice A n c]] w (aB w (.int .i64 s)):=by subst hs;exact tD w b A n c l wa hn
theorem eU (w:World) (b:Bool) (A:Option Addr) (n c:Nat) (l:List Nat) (s:Bool) (wa:Wd w A n c l) (hn:n≤1099511627776) (hs:WD.s ⟨b,l⟩=s) :
 Calls Tryz.prog 121 #[.agg #[.bool b,.slice A n c]] w (aB w (.bool s)):=by subst hs;exact iw w b A n c l wa hn
theorem rM (w:World) (A n c l) (wa:Wd w A n c l) (hn:n≤1099511627776) (A' n' c' l') (wb:Wd w A' n' c' l') (hn':n'≤1099511627776) (hc:aO l) (hc':aO l') (k:Int) (hk:bq (val l) (val l')=k) :
 Calls Tryz.prog 119 #[.slice A n c,.slice A' n' c'] w (aB w (.int .i64 k)):=by subst hk;exact dI w A n c l wa hn A' n' c' l' wb hn' hc hc'
theorem zN (w:World) (b:Bool) (A n c l) (wa:Wd w A n c l) (hn:n≤1099511627000) (b':Bool) (A' n' c' l') (wb:Wd w A' n' c' l') (hn':n'≤1099511627000) :
 Calls Tryz.prog 83 #[.agg #[.bool b,.slice A n c],.agg #[.bool b',.slice A' n' c']] w (aB w (.int .i64 (eI (WD.z ⟨b,l⟩) (WD.z ⟨b',l'⟩)))):=by
 have HL:=Qh wa.2.1;have HL':=Qh wb.2.1;have hwa:=wa.1;have hwb:=wb.1;have hcm1:aO (WD.m ⟨b,l⟩):=WD.canon_m wa.1;have hcm2:aO (WD.m ⟨b',l'⟩):=WD.canon_m wb.1;obtain ⟨sa,hsa⟩:∃ s,(WD.z ⟨b,l⟩).sign=s:=⟨_,rfl⟩;obtain ⟨sb,hsb⟩:∃ s,(WD.z ⟨b',l'⟩).sign=s:=⟨_,rfl⟩;have HSA:=Qh hsa;have HSB:=Qh hsb;clear hsa hsb;go_in;go_wp2_with fail;have b0:Below w.heap.size w ((w.alloc (.cells #[.bool b,.slice A n c] 134)).alloc (.cells #[.bool b',.slice A' n' c'] 134)):=(((Below.refl _ _).alloc Qr _).alloc (by simp) _);generalize hW0:((w.alloc (.cells #[.bool b,.slice A n c] 134)).alloc (.cells #[.bool b',.slice A' n' c'] 134))=W0 at b0 ⊢;have c00:W0.cell? ⟨w.heap.size,0,none⟩=some (.bool b):=by subst hW0;simp [go_sem]
 have f00:W0.frozen? ⟨w.heap.size,0,none⟩=false:=by subst hW0;simp [go_sem]
 have c01:W0.cell? ⟨w.heap.size,1,none⟩=some (.slice A n c):=by subst hW0;simp [go_sem]
 have f01:W0.frozen? ⟨w.heap.size,1,none⟩=false:=by subst hW0;simp [go_sem]
 have c10:W0.cell? ⟨w.heap.size+1,0,none⟩=some (.bool b'):=by subst hW0;simp [go_sem]
 have f10:W0.frozen? ⟨w.heap.size+1,0,none⟩=false:=by subst hW0;simp [go_sem]
 have c11:W0.cell? ⟨w.heap.size+1,1,none⟩=some (.slice A' n' c'):=by subst hW0;simp [go_sem]
 have f11:W0.frozen? ⟨w.heap.size+1,1,none⟩=false:=by subst hW0;simp [go_sem]
 have x0:Box W0 w.heap.size 134:=by subst hW0;exact (bG _ _ _ (by simp)).alloc _
 have x1:Box W0 (w.heap.size+1) 134:=by subst hW0;exact bG _ _ _ (by simp)
 have hm0:ix (w.heap.size+1+1) (w.heap.size+1+1) 0 W0:=fun b h1 h2=>by omega
 have hs0:w.heap.size+1+1≤W0.heap.size:=by subst hW0;simp
 clear hW0;have wa:=wa.belw b0;have wb:=wb.belw b0;have r0:Below W0.heap.size W0 W0:=aa _;have hRB:w.heap.size+1+1≤w.heap.size+1+1:=by omega
 go_region_held3 (fun w'=>Sees (w.heap.size+1+1) W0 w') (first | exact Sees.of (Nat.le_trans hRB hs0) (by assumption) | exact Sees.of (Nat.le_trans hRB hs0) (af (by assumption) _))
  (first
   | (go_at_call 118;(with_reducible refine (tE _ b A n c l sa ?_ ?_ ?_).mono ?_);(exact wa);(omega);(exact HSA.out);rintro e w1 ⟨rfl,hb1⟩;replace hb1:=ah (af (aa _) 1) hb1;have r1:=ah r0 hb1;replace wa:=wa.belw hb1;replace wb:=wb.belw hb1)
   | (go_at_call 118;(with_reducible refine (tE _ b' A' n' c' l' sb ?_ ?_ ?_).mono ?_);(exact wb);(omega);(exact HSB.out);rintro e w2 ⟨rfl,hb2⟩;have r2:=ah r1 hb2;replace wa:=wa.belw hb2;replace wb:=wb.belw hb2))
 obtain ⟨⟨sc,sf⟩,sr,sz⟩:=bj.of (by omega) hs0 hm0 r2;clear hRB;by_cases hne:sa=sb
 ·have HC:=Qh (rL (a:=⟨b,l⟩) (b:=⟨b',l'⟩) hwa hwb (by rw [HSA.out,HSB.out];exact hne))
  subst hne;obtain ⟨k,hk⟩:∃ k,bq (val (WD.m ⟨b,l⟩)) (val (WD.m ⟨b',l'⟩))=k:=⟨_,rfl⟩;have hk1:-1≤k∧k≤1:=by rw [← hk];exact ww _ _
  have HK:=Qh hk;clear hk;go_wp2_with fail;clear sc sf sr sz;have hRB:w.heap.size+1+1≤w.heap.size+1+1:=by omega
  go_region_held3 (fun w'=>Sees (w.heap.size+1+1) W0 w') (first | exact Sees.of (Nat.le_trans hRB hs0) (by assumption) | exact Sees.of (Nat.le_trans hRB hs0) (af (by assumption) _))
   (first
    | (go_at_call 120;(with_reducible refine (dQ _ b A n c l ?_ ?_).mono ?_);(exact wa);(omega);rintro e w3 ⟨A1,n1,c1,rfl,h1,hb3⟩;replace hb3:=ah (af (aa _) 1) hb3;have r3:=ah r2 hb3;replace wa:=wa.belw hb3;replace wb:=wb.belw hb3)
    | (go_at_call 120;(with_reducible refine (dQ _ b' A' n' c' l' ?_ ?_).mono ?_);(exact wb);(omega);rintro e w4 ⟨A2,n2,c2,rfl,h2,hb4⟩;have r4:=ah r3 hb4;replace wa:=wa.belw hb4;replace wb:=wb.belw hb4;replace h1:=h1.belw hb4)
    | (go_at_call 119;(with_reducible refine (rM _ A1 n1 c1 (WD.m ⟨b,l⟩) ?_ ?_ A2 n2 c2 (WD.m ⟨b',l'⟩) ?_ ?_ hcm1 hcm2 k ?_).mono ?_);(exact h1);(exact Nat.le_trans (h1.m_len (by rw [← HL.out];exact hn)) (by decide));(exact h2);(exact Nat.le_trans (h2.m_len (by rw [← HL'.out];exact hn')) (by decide));(exact HK.out);rintro e w5 ⟨rfl,hb5⟩;have r5:=ah r4 hb5;replace wa:=wa.belw hb5;replace wb:=wb.belw hb5;replace h1:=h1.belw hb5;replace h2:=h2.belw hb5))
  obtain ⟨⟨sc,sf⟩,sr,sz⟩:=bj.of (by omega) hs0 hm0 r5;clear hRB;obtain ⟨s,hs⟩:∃ s,WD.s ⟨b,l⟩=s:=⟨_,rfl⟩;have HS:=Qh hs;clear hs;cases s
  ·go_wp2_with (first
    | (go_at_call 121;(with_reducible refine (eU _ b A n c l false ?_ ?_ ?_).mono ?_);(exact wa);(omega);(exact HS.out);rintro e w6 ⟨rfl,hb6⟩;have r6:=ah r5 hb6;replace wa:=wa.belw hb6;replace wb:=wb.belw hb6;replace h1:=h1.belw hb6;replace h2:=h2.belw hb6;(try clear sc sf sr sz);obtain ⟨⟨sc,sf⟩,sr,sz⟩:=bj.of (by omega) hs0 hm0 r6))
   go_ret;refine cJ ?_ (b0.trans (r6.mono b0.size));rw [HC.out,HS.out,HK.out];rfl
  have hw:IntKind.i64.wrap (-k)=-k:=IntWalk.i64_in _ ⟨by omega,by omega⟩
  go_wp2_with (first
   | (go_at_call 121;(with_reducible refine (eU _ b A n c l true ?_ ?_ ?_).mono ?_);(exact wa);(omega);(exact HS.out);rintro e w6 ⟨rfl,hb6⟩;have r6:=ah r5 hb6;replace wa:=wa.belw hb6;replace wb:=wb.belw hb6;replace h1:=h1.belw hb6;replace h2:=h2.belw hb6;(try clear sc sf sr sz);obtain ⟨⟨sc,sf⟩,sr,sz⟩:=bj.of (by omega) hs0 hm0 r6))
  go_ret;refine cJ ?_ (b0.trans (r6.mono b0.size));rw [HC.out,HS.out,HK.out];rfl
 by_cases hlt:sa < sb
 ·have HC:=Qh (mq (x:=WD.z ⟨b,l⟩) (y:=WD.z ⟨b',l'⟩) (by rw [HSA.out,HSB.out];exact hlt))
  have e1:(sa == sb)=false:=by simp [hne]
  have e2:decide (sa < sb)=true:=by simp [hlt]
  clear hne hlt;go_wp2;go_ret;refine cJ ?_ (b0.trans (r2.mono b0.size));rw [HC.out]
 have HC:=Qh (mr (x:=WD.z ⟨b,l⟩) (y:=WD.z ⟨b',l'⟩) (by rw [HSA.out,HSB.out];omega));have e1:(sa == sb)=false:=by simp [hne]
 have e2:decide (sa < sb)=false:=by simp;omega
 clear hne hlt;go_wp2;go_ret;refine cJ ?_ (b0.trans (r2.mono b0.size));rw [HC.out]

theorem nF (r x:Nat) (hx:x < 4294967296):r * 4294967296 ||| x=r * 4294967296+x:=by
 have:=Nat.two_pow_add_eq_or_of_lt (i:=32) (b:=x) (by simpa using hx) r;simp at this;rw [Nat.mul_comm];exact this.symm
theorem jC {r x:Nat}(hr:r < 4294967296) (hx:x < 4294967296):bits .or .u64 ((r:Int) * 4294967296) (x:Int)=((r * 4294967296+x:Nat):Int):=by
 have e:(r:Int) * 4294967296=((r * 4294967296:Nat):Int):=by simp
 rw [e,u64_or_nat _ _ (by omega) (by omega),nF r x hx]
theorem ks (l:List Nat) {k:Nat}(h:k < l.length):val (l.drop k)=wd l k+4294967296 * val (l.drop (k+1)):=by
 rw [List.drop_eq_getElem_cons h,val,kn h]
theorem lq (l:List Nat) (k x:Nat):(l.set k x).drop (k+1)=l.drop (k+1):=by
 rw [List.drop_set_of_lt (by omega)]
def yt (l L:List Nat) (b k r:Nat):Prop:=Wds L∧r < b∧val (l.drop k)=b * val (L.drop k)+r
theorem qK (w:World) (A n c l) (wa:Wd w A n c l) (hn:n≤1099511627776) (b:Nat) (hb0:0 < b) (hb1:b < 4294967296) :
 Calls Tryz.prog 123 #[.slice A n c,.int .u32 (b:Nat)] w fun e w'=>∃ A1 n1 c1,e=.returned (.tuple #[.slice A1 n1 c1,.int .u32 ((val l % b:Nat):Int)])∧Wd w' A1 n1 c1 (am (val l / b))∧Below w.heap.size w w':=by
 have HL:=Qh wa.2.1;go_in;go_wp2_with (at_make;refine aL _ rfl _ _ rfl _ _ _ _ n rfl rfl (by omega) (by omega) (by omega) ?_);go_loopw [7,8] (fun rv iv wr=>∃ (k r:Nat) (L:List Nat),k≤n∧iv=.int .i64 ((k:Int) - 1)∧rv=.int .u64 (r:Nat)∧r < b∧L.length=n∧yt l L b k r∧Blk wr w.heap.size 173 (cellsOf L)∧Below w.heap.size w wr) (fun _ iv _=>(intOf iv+1).toNat)
 case atStart=>exact ⟨n,0,List.replicate n 0,Qr,rfl,rfl,hb0,by simp,⟨by intro x hx;rw [List.eq_of_mem_replicate hx];omega,hb0,by rw [HL.out];simp [val]⟩,Blk.new _ _ _,(Below.refl _ _).alloc Qr _⟩
 case round =>
  obtain ⟨k,r,L,hk,rfl,rfl,hr,hLM,hI,hB,hbel⟩:=hrel;have hKp:=Qh ((Kp.refl w).below hbel);have HI:=Qh hI;have HB:=Qh hB;have HLM:=Qh hLM;clear hI hB hLM;by_cases hk0:k=0
  ·subst hk0
   have h1:=HI.out.2.2;simp only [List.drop_zero] at h1
   have hq:val l / b=val L:=by
    rw [h1,Nat.mul_add_div hb0,Nat.div_eq_of_lt HI.out.2.1,Nat.add_zero]
   have hm:val l % b=r:=by rw [h1];rw [Nat.mul_add_mod];exact Nat.mod_eq_of_lt HI.out.2.1
   have HQ:=Qh (And.intro hq hm);have hr2:r < 4294967296:=by omega
   clear hq hm h1;go_wp2_with fail;refine (eH _ _ n n L ?_ ?_).mono ?_
   ·exact HB.out.wdN HI.out.1 HLM.out
   ·omega
   rintro e w1 ⟨A1,n1,c1,rfl,h2,hb2⟩;go_wp2;go_ret2;rw [HQ.out.1,HQ.out.2];exact ⟨_,_,_,rfl,h2,hbel.trans (hb2.mono hbel.size)⟩
  obtain ⟨g,o,rfl,hgl,hc1⟩:=(wa.keep hKp.out).at2 (by omega);have hcx:=hc1 (k - 1) (by omega);obtain ⟨x,hx⟩:∃ x,wd l (k - 1)=x:=⟨_,rfl⟩;have hx1:x < 4294967296:=by rw [← hx];exact wa.lt _
  rw [hx] at hcx;have HX:=Qh hx;have hck:=HB.out.cell (k - 1);rw [az (by rw [HLM.out];omega)] at hck;have hfk:=HB.out.frozen (k - 1);have hkp:0 < k:=by omega
  obtain ⟨s,hs⟩:∃ s:Nat,s=r * 4294967296+x:=⟨_,rfl⟩;have e1:bits .or .u64 ((r:Int) * 4294967296) (x:Int)=(s:Int):=by rw [hs];exact jC (by omega) hx1
  have HS:=Qh hs
  have hsb:s / b < 4294967296:=by
   rw [Nat.div_lt_iff_lt_mul hb0,HS.out];have:(r+1) * 4294967296≤b * 4294967296:=Nat.mul_le_mul_right _ hr;rw [Nat.add_mul] at this;rw [Nat.mul_comm 4294967296];omega
  obtain ⟨t,ht⟩:∃ t:Nat,s / b=t:=⟨_,rfl⟩;rw [ht] at hsb
  have e2:IntKind.u64.wrap ((s:Int) / (b:Int))=(t:Int):=by
   have h5:((s / b:Nat):Int)=(s:Int) / (b:Int):=by simp
   rw [← h5,ht];exact IntWalk.u64_in _ ⟨by omega,by omega⟩
  have HT:=Qh ht;clear hx hc1 hk0 hs ht;go_wp2;clear e1 e2;have hmod:s % b < b:=Nat.mod_lt _ hb0;go_roundw
  case rel =>
   refine ⟨k - 1,s % b,L.set (k - 1) t,by omega,by go_num,by simp,hmod,by rw [List.length_set];exact HLM.out,⟨wds_set HI.out.1 _ hsb,hmod,?_⟩,?_,hbel.setCell Qr _⟩
   ·rw [ks l (by rw [← HL.out];omega),ks (L.set (k - 1) t) (by rw [List.length_set,HLM.out];omega),lq,show k - 1+1=k by omega,HX.out,bP,if_pos ⟨rfl,by rw [HLM.out];omega⟩,← HT.out,HS.out]
    exact px HI.out.2.2
   exact HB.out.setW (k - 1) _ _ (by omega)
  case measure=>simp [intOf];omega

theorem wA {x q q2:Nat}(hx:x < 4294967296) (h:q+1 * 4294967296≤q2):x+q < q2:=by omega
theorem wC {a b x c:Nat}(h:a=c+b):a+x=x+b+c:=by omega
theorem rN {x y m:Nat}(hx:x < 4294967296) (hy:y < 4294967296) (hm:m < 32) {s:Int}(hs:bits .or .u64 (x:Int) ((y:Int) * 4294967296)=s) :
 ∃ v:Nat,IntKind.u32.wrap (s / 2 ^ m)=(v:Int)∧v < 4294967296∧v * 2 ^ m+x % 2 ^ m=x+y % 2 ^ m * 4294967296:=by
 have e:(y:Int) * 4294967296=((y * 4294967296:Nat):Int):=by simp
 rw [e,u64_or_nat _ _ (by omega) (by omega),Nat.or_comm,nF y x hx] at hs;have hpp:0 < 2 ^ m:=Nat.pow_pos (by omega)
 have h32:4294967296=2 ^ m * 2 ^ (32 - m):=by
  rw [← Nat.pow_add,show m+(32 - m)=32 by omega]
 have hdiv:=Nat.div_add_mod y (2 ^ m)
 have hsd:y * 4294967296+x=(x+y % 2 ^ m * 4294967296)+2 ^ m * (y / 2 ^ m * 4294967296):=by
  have h1:y * 4294967296=(2 ^ m * (y / 2 ^ m)+y % 2 ^ m) * 4294967296:=by rw [hdiv]
  rw [Nat.add_mul,Nat.mul_assoc] at h1;exact wC h1
 have hlt:(x+y % 2 ^ m * 4294967296) / 2 ^ m < 4294967296:=by
  rw [Nat.div_lt_iff_lt_mul hpp];have h1:y % 2 ^ m+1≤2 ^ m:=Nat.mod_lt _ hpp;have h2:(y % 2 ^ m+1) * 4294967296≤2 ^ m * 4294967296:=Nat.mul_le_mul_right _ h1;rw [Nat.add_mul] at h2;rw [Nat.mul_comm 4294967296];exact wA hx h2
 refine ⟨(x+y % 2 ^ m * 4294967296) / 2 ^ m,?_,hlt,?_⟩
 ·rw [← hs,hsd]
  have e2:((((x+y % 2 ^ m * 4294967296)+2 ^ m * (y / 2 ^ m * 4294967296):Nat):Int)) / 2 ^ m=((((x+y % 2 ^ m * 4294967296)+2 ^ m * (y / 2 ^ m * 4294967296)) / 2 ^ m:Nat):Int):=by simp
  rw [e2,Nat.add_mul_div_left _ _ hpp,IntKind.wrap_u32];have e3:((((x+y % 2 ^ m * 4294967296) / 2 ^ m+y / 2 ^ m * 4294967296:Nat):Int)) % 4294967296=((((x+y % 2 ^ m * 4294967296) / 2 ^ m+y / 2 ^ m * 4294967296) % 4294967296:Nat):Int):=by simp
  rw [e3,Nat.add_mul_mod_self_right,Nat.mod_eq_of_lt hlt]
 have h1:=Nat.div_add_mod (x+y % 2 ^ m * 4294967296) (2 ^ m)
 have h2:(x+y % 2 ^ m * 4294967296) % 2 ^ m=x % 2 ^ m:=by
  have:y % 2 ^ m * 4294967296=2 ^ m * (y % 2 ^ m * 2 ^ (32 - m)):=by
   conv=>lhs;rw [h32]
   rw [Nat.mul_left_comm]
  rw [this,Nat.add_mul_mod_self_left]
 rw [h2,Nat.mul_comm] at h1;exact h1
theorem tF {SL SM r0 P xm v M x yB PB ymPB:Nat}(h:SL * M+r0=SM+xm * P) (hv:v * M+xm=x+yB) (hy:yB * P=ymPB):(SL+v * P) * M+r0=SM+x * P+ymPB:=by
 have h1:(v * M+xm) * P=(x+yB) * P:=by rw [hv]
 rw [Nat.add_mul,Nat.add_mul] at h1;have h2:v * P * M=v * M * P:=by rw [Nat.mul_assoc,Nat.mul_comm P,← Nat.mul_assoc]
 have _:=PB;rw [Nat.add_mul,h2];omega
def zO (l L:List Nat) (m k:Nat):Prop:=Wds L∧Sm (wd L) k * 2 ^ m+val l % 2 ^ m=Sm (wd l) k+wd l k % 2 ^ m * 4294967296 ^ k
theorem yu (w:World) (A n c l) (wa:Wd w A n c l) (hn:n≤1099511627776) (m:Nat) (hm:m < 32) :
 Calls Tryz.prog 203 #[.slice A n c,.int .i64 (m:Nat)] w (fm w (am (val l / 2 ^ m))):=by
 have HL:=Qh wa.2.1;go_in;go_wp2_with (at_make;refine aL _ rfl _ _ rfl _ _ _ _ n rfl rfl (by omega) (by omega) (by omega) ?_);go_loopw [12] (fun iv wr=>∃ (k:Nat) (L:List Nat),k≤n∧iv=.int .i64 (k:Nat)∧L.length=n∧zO l L m k∧Blk wr w.heap.size 173 (cellsOf L)∧Below w.heap.size w wr) (fun iv _=>n - (intOf iv).toNat)
 case atStart =>
  refine ⟨0,List.replicate n 0,Nat.zero_le _,rfl,by simp,⟨by intro x hx;rw [List.eq_of_mem_replicate hx];omega,?_⟩,Blk.new _ _ _,(Below.refl _ _).alloc Qr _⟩
  have h1:val l=wd l 0+4294967296 * val (l.drop 1):=by
   by_cases h0:0 < l.length
   ·have:=ks l h0;simpa using this
   have:l=[]:=List.eq_nil_of_length_eq_zero (by omega);subst this;simp [val,wd]
  have h32:4294967296=2 ^ m * 2 ^ (32 - m):=by
   rw [← Nat.pow_add,show m+(32 - m)=32 by omega]
  have h2:val l % 2 ^ m=wd l 0 % 2 ^ m:=by
   rw [h1]
   conv=>lhs;rw [h32]
   rw [Nat.mul_assoc,Nat.add_mul_mod_self_left]
  simp [Sm,h2]
 case round =>
  obtain ⟨k,L,hk,rfl,hLM,hI,hB,hbel⟩:=hrel;have hKp:=Qh ((Kp.refl w).below hbel);have HI:=Qh hI;have HB:=Qh hB;have HLM:=Qh hLM;clear hI hB hLM;by_cases hkn:k < n
  ·obtain ⟨g,o,rfl,hgw,_⟩:=wa.at2 (by omega)
   obtain ⟨g2,o2,eg,hgl,hc1⟩:=(wa.keep hKp.out).at2 (by omega);injection eg with eg;injection eg with eg1 eg2;subst eg1;subst eg2;have hcx:=hc1 k hkn;obtain ⟨x,y,hx,hy⟩:∃ x y,wd l k=x∧wd l (k+1)=y:=⟨_,_,rfl,rfl⟩;have hx1:x < 4294967296:=by rw [← hx];exact wa.lt _
   have hy1:y < 4294967296:=by rw [← hy];exact wa.lt _
   rw [hx] at hcx;have hck:=HB.out.cell k;rw [az (by rw [HLM.out];omega)] at hck;have hfk:=HB.out.frozen k;have HX:=Qh hx;have HY:=Qh hy;have hk0:(0:Int)≤(k:Int):=by omega
   have hk1:(k:Int) < (n:Int):=by omega
   have e0:IntKind.i64.wrap ((k:Int)+1)=((k+1:Nat):Int):=by rw [IntWalk.i64_in _ ⟨by omega,by omega⟩];simp
   have e1:IntKind.u64.wrap (x:Int)=(x:Int):=IntWalk.u64_in _ ⟨by omega,by omega⟩;have e2:IntKind.u64.wrap ((y:Int) * 4294967296)=(y:Int) * 4294967296:=IntWalk.u64_in _ ⟨by omega,by omega⟩;obtain ⟨s,hs⟩:∃ s,bits .or .u64 (x:Int) ((y:Int) * 4294967296)=s:=⟨_,rfl⟩;have HS:=Qh hs;clear hx hy hc1;go_wp2_with fail
   go_region_held3 (fun w'=>w'.cell? ⟨g,o+k,none⟩=some (.int .u32 x)) (first | assumption | (simp [*];done) | (simp [*,go_sem];done))
    (first
     | (go_at_call 172;(refine (kr _ (some ⟨g,o,none⟩) n c l ?_ (k+1) y HY.out (by omega)).mono ?_);exact (wa.keep hKp.out).keep ((Kp.refl _).drew);rintro e w' ⟨rfl,rfl⟩))
   clear hs e0 e1 e2;go_wp2;obtain ⟨v,ev,hvb,hv⟩:=rN hx1 hy1 hm HS.out;go_roundw
   case rel =>
    refine ⟨k+1,L.set k v,by omega,by go_num,by rw [List.length_set];exact HLM.out,⟨wds_set HI.out.1 _ hvb,?_⟩,(HB.out.setW k _ _ ev).drew,(hbel.setCell Qr _).drew⟩;rw [bM _ _ _ (by rw [HLM.out];exact hkn),Sm,HX.out,HY.out];have h3:=HI.out.2;rw [HX.out] at h3;exact tF (PB:=0) h3 hv (by rw [Nat.pow_succ,Nat.mul_assoc,Nat.mul_comm 4294967296])
   case measure=>simp [intOf];omega
  have hkk:k=n:=by omega
  subst hkk
  have hv2:val L=val l / 2 ^ m:=by
   have h1:=HI.out.2;rw [aX L (by rw [HLM.out];exact Qr),aX l (by rw [← HL.out];omega),dN (by rw [← HL.out];omega)] at h1;have hpp:0 < 2 ^ m:=Nat.pow_pos (by omega);have h2:=Nat.mod_lt (val l) hpp;simp at h1;have h3:val l=2 ^ m * val L+val l % 2 ^ m:=by rw [Nat.mul_comm];exact h1.symm
   rw [h3,Nat.mul_add_div hpp,Nat.div_eq_of_lt (Nat.mod_lt _ hpp)];simp
  have HV2:=Qh hv2;clear hv2;go_wp2_with fail;refine (eH _ _ k k L ?_ ?_).mono ?_
  ·exact HB.out.wdN HI.out.1 HLM.out
  ·omega
  rintro e w1 ⟨A1,n1,c1,rfl,h1,hb1⟩;go_wp2;go_ret;rw [HV2.out] at h1;exact ⟨_,_,_,rfl,h1,hbel.trans (hb1.mono hbel.size)⟩

theorem wD {x z m:Nat}(hx:x < 4294967296) (hm:m < 32) (hz:z < 2 ^ m) :
 bits .or .u32 (z:Int) (IntKind.u64.wrap ((x:Int) * 2 ^ m) % 4294967296)=((z+x * 2 ^ m % 4294967296:Nat):Int) ∧
 IntKind.u64.wrap ((x:Int) * 2 ^ m) / 4294967296 % 4294967296=((x * 2 ^ m / 4294967296:Nat):Int) ∧
 z+x * 2 ^ m % 4294967296 < 4294967296∧x * 2 ^ m / 4294967296 < 2 ^ m:=by
 have e:(x:Int) * 2 ^ m=((x * 2 ^ m:Nat):Int):=by simp
 have hp:2 ^ m≤2 ^ 31:=Nat.pow_le_pow_right (by omega) (by omega);have hpp:0 < 2 ^ m:=Nat.pow_pos (by omega);have hb:x * 2 ^ m≤4294967295 * 2 ^ 31:=Nat.mul_le_mul (by omega) hp;have hlt:x * 2 ^ m < 4294967296 * 2 ^ m:=Nat.mul_lt_mul_of_pos_right hx hpp;have hw:IntKind.u64.wrap ((x * 2 ^ m:Nat):Int)=((x * 2 ^ m:Nat):Int):=IntWalk.u64_in _ ⟨by omega,by omega⟩
 have h32:4294967296=2 ^ m * 2 ^ (32 - m):=by
  rw [← Nat.pow_add,show m+(32 - m)=32 by omega]
 have hv:x * 2 ^ m % 4294967296=2 ^ m * (x % 2 ^ (32 - m)):=by
  rw [h32,Nat.mul_comm x,Nat.mul_mod_mul_left]
 have hor:z ||| x * 2 ^ m % 4294967296=z+x * 2 ^ m % 4294967296:=by
  rw [hv,Nat.or_comm,← Nat.two_pow_add_eq_or_of_lt hz];omega
 have hlt2:z+x * 2 ^ m % 4294967296 < 4294967296:=by
  have h1:x % 2 ^ (32 - m) < 2 ^ (32 - m):=Nat.mod_lt _ (Nat.pow_pos (by omega));have h2:2 ^ m * (x % 2 ^ (32 - m)+1)≤2 ^ m * 2 ^ (32 - m):=Nat.mul_le_mul_left _ h1;rw [Nat.mul_add] at h2;rw [hv];generalize 2 ^ m * (x % 2 ^ (32 - m))=q at *;omega
 refine ⟨?_,?_,hlt2,?_⟩
 ·rw [e,hw]
  have e2:((x * 2 ^ m:Nat):Int) % 4294967296=((x * 2 ^ m % 4294967296:Nat):Int):=by omega
  rw [e2,u32_or_nat _ _ (by omega) (by omega),hor]
 ·rw [e,hw]
  generalize x * 2 ^ m=q at *;omega
 rw [Nat.div_lt_iff_lt_mul (by omega)];omega
theorem yv {SL z SM P PB XP r q:Nat}(h3:SL+z * P=SM) (h4:r * P+q * PB=XP):SL+(z+r) * P+q * PB=SM+XP:=by
 rw [Nat.add_mul];omega
def UpI (l L:List Nat) (m k:Nat):Prop:=Wds L∧(∀ j,k < j→wd L j=0)∧wd L k < 2 ^ m∧Sm (wd L) (k+1)=Sm (wd l) k * 2 ^ m
theorem Bh (w:World) (A n c l) (wa:Wd w A n c l) (hn:n≤1099511627776) (m:Nat) (hm:m < 32) :
 Calls Tryz.prog 200 #[.slice A n c,.int .i64 (m:Nat)] w fun e w'=>∃ L,e=.returned (.slice (some ⟨w.heap.size,0,none⟩) (n+1) (n+1))∧Wds L∧L.length=n+1∧val L=val l * 2 ^ m∧Blk w' w.heap.size 173 (cellsOf L)∧Below w.heap.size w w':=by
 have HL:=Qh wa.2.1;go_in;go_wp2_with (at_make;refine aL _ rfl _ _ rfl _ _ _ _ (n+1) rfl rfl (by omega) (by omega) (by omega) ?_);go_loopw [15] (fun iv wr=>∃ (k:Nat) (L:List Nat),k≤n∧iv=.int .i64 (k:Nat)∧L.length=n+1∧UpI l L m k∧Blk wr w.heap.size 173 (cellsOf L)∧Below w.heap.size w wr) (fun iv _=>n - (intOf iv).toNat)
 case atStart =>
  have hz:∀ j,wd (List.replicate (n+1) 0) j=0:=fun j=>by unfold wd;by_cases hj:j < n+1 <;> simp [List.getD,hj]
  exact ⟨0,List.replicate (n+1) 0,Nat.zero_le _,rfl,by simp,⟨by intro x hx;rw [List.eq_of_mem_replicate hx];omega,fun j _=>hz j,by rw [hz];exact Nat.pow_pos (by omega),by simp [Sm,hz]⟩,Blk.new _ _ _,(Below.refl _ _).alloc Qr _⟩
 case round =>
  obtain ⟨k,L,hk,rfl,hLM,hI,hB,hbel⟩:=hrel;have hKp:=Qh ((Kp.refl w).below hbel);have HI:=Qh hI;have HB:=Qh hB;have HLM:=Qh hLM;clear hI hB hLM;by_cases hkn:k < n
  ·obtain ⟨g,o,rfl,hgl,hc1⟩:=(wa.keep hKp.out).at2 (by omega)
   have hcx:=hc1 k hkn;obtain ⟨x,z,hx,hz⟩:∃ x z,wd l k=x∧wd L k=z:=⟨_,_,rfl,rfl⟩;have hx1:x < 4294967296:=by rw [← hx];exact wa.lt _
   have hz1:z < 4294967296:=by rw [← hz];exact bF HI.out.1 _
   rw [hx] at hcx;have hck:=HB.out.cell k;rw [az (by rw [HLM.out];omega),hz] at hck;have hfk:=HB.out.frozen k;have hck2:=HB.out.cell (k+1);rw [az (by rw [HLM.out];omega)] at hck2;have hfk2:=HB.out.frozen (k+1);have HX:=Qh hx;have HZ:=Qh hz;clear hx hz hc1;go_wp2;obtain ⟨e1,e2,hb1,hb2⟩:=wD (z:=z) hx1 hm (by rw [← HZ.out];exact HI.out.2.2.1);rw [e1,e2];go_roundw
   case rel =>
    have hh:x * 2 ^ m / 4294967296 < 4294967296:=Nat.lt_trans hb2 (Nat.lt_of_le_of_lt (Nat.pow_le_pow_right (by omega) (show m≤31 by omega)) (by decide));refine ⟨k+1,(L.set k (z+x * 2 ^ m % 4294967296)).set (k+1) (x * 2 ^ m / 4294967296),by omega,by go_num,by rw [List.length_set,List.length_set];exact HLM.out,⟨wds_set (wds_set HI.out.1 _ hb1) _ hh,?_,?_,?_⟩,(HB.out.setW k _ _ rfl).setW (k+1) _ _ rfl,(hbel.setCell Qr _).setCell Qr _⟩
    ·intro j hj;rw [bP,if_neg (by omega),bP,if_neg (by omega)];exact HI.out.2.1 j (by omega)
    ·rw [bP,if_pos ⟨rfl,by rw [List.length_set,HLM.out];omega⟩];exact hb2
    rw [bM _ _ _ (by rw [List.length_set,HLM.out];omega),bM _ _ _ (by rw [HLM.out];omega),Sm,HX.out];have h3:=HI.out.2.2.2;rw [Sm,HZ.out] at h3;have h4:=Bn.split_mul (x * 2 ^ m) (4294967296 ^ k);have h7:(Sm (wd l) k+x * 4294967296 ^ k) * 2 ^ m=Sm (wd l) k * 2 ^ m+x * 4294967296 ^ k * 2 ^ m:=Nat.add_mul _ _ _;have h5:x * 4294967296 ^ k * 2 ^ m=x * 2 ^ m * 4294967296 ^ k:=by rw [Nat.mul_assoc,Nat.mul_comm (4294967296 ^ k),← Nat.mul_assoc]
    rw [Nat.pow_succ,h7,h5];exact yv h3 h4
   case measure=>simp [intOf];omega
  have hkk:k=n:=by omega
  subst hkk
  have hv:val L=val l * 2 ^ m:=by
   have h1:=HI.out.2.2.2;rw [aX L (by rw [HLM.out];exact Qr),aX l (by rw [← HL.out];omega)] at h1;exact h1
  have HV:=Qh hv;clear hv;go_wp2;go_ret;exact ⟨L,rfl,HI.out.1,HLM.out,HV.out,HB.out,hbel⟩

theorem zP (w:World) (A n c l) (wa:Wd w A n c l) (hn:n≤1099511627776) (m:Nat) (hm:m < 32) :
 Calls Tryz.prog 200 #[.slice A n c,.int .i64 (m:Nat)] w fun e w'=>∃ L g,e=.returned (.slice (some ⟨g,0,none⟩) (n+1) (n+1))∧w.heap.size≤g∧Wds L∧L.length=n+1∧val L=val l * 2 ^ m∧Blk w' g 173 (cellsOf L)∧Below w.heap.size w w' :=
 (Bh w A n c l wa hn m hm).mono fun _ _ ⟨L,h1,h2,h3,h4,h5,h6⟩=>⟨L,w.heap.size,h1,Qr,h2,h3,h4,h5,h6⟩
end Go.Proofs.YtndhgcfajlalhaaGreatDoor
namespace Bn
theorem pB (f:Nat→Nat) (j t:Nat):Sm f (j+t)=Sm f j+4294967296 ^ j * Sm (fun i=>f (j+i)) t:=by
 induction t with
 | zero=>simp [Sm]
 | succ t ih =>
  rw [← Nat.add_assoc,Sm,ih,Sm,Nat.mul_add,Nat.pow_add];have:f (j+t) * (4294967296 ^ j * 4294967296 ^ t)=4294967296 ^ j * (f (j+t) * 4294967296 ^ t):=by rw [Nat.mul_left_comm]
  omega
def wn (L:List Nat) (off:Nat) (i:Nat):Nat:=wd L (off+i)
def Win (L L':List Nat) (off n:Nat):Prop:=L'.length=L.length∧Wds L'∧∀ j,j < off∨off+n≤j→wd L' j=wd L j
theorem mt {L:List Nat}{N:Nat}(h:val L < 4294967296 ^ N):Sm (wd L) N=val L∧∀ j,N≤j→wd L j=0:=by
 have key:∀ M,N≤M→Sm (wd L) M=Sm (wd L) N→Sm (wd L) (M+1)=Sm (wd L) N∧wd L M=0:=by
  intro M hM hE
  have h1:Sm (wd L) (M+1)≤val L:=by
   rw [← aX L (Nat.le_max_left L.length (M+1))];exact nB _ (Nat.le_max_right _ _)
  rw [Sm,hE] at h1;have h2:4294967296 ^ N≤4294967296 ^ M:=Nat.pow_le_pow_right (by omega) hM
  have h3:wd L M=0:=by
   rcases Nat.eq_zero_or_pos (wd L M) with h3 | h3
   ·exact h3
   have:1 * 4294967296 ^ M≤wd L M * 4294967296 ^ M:=Nat.mul_le_mul_right _ h3;omega
  refine ⟨?_,h3⟩;rw [Sm,hE,h3];simp
 have all:∀ d,Sm (wd L) (N+d)=Sm (wd L) N:=by
  intro d
  induction d with
  | zero=>rfl
  | succ d ih=>rw [← Nat.add_assoc];exact (key (N+d) (by omega) ih).1
 refine ⟨?_,fun j hj=>?_⟩
 ·have:=all L.length
  rw [aX L (by omega)] at this;exact this.symm
 have:=(key j hj (by have:=all (j - N);rwa [show N+(j - N)=j by omega] at this)).2;exact this
theorem pC {L:List Nat}{j t:Nat}(h:val L < 4294967296 ^ (j+t)):val L=Sm (wd L) j+4294967296 ^ j * Sm (wn L j) t:=by
 rw [← (mt h).1,pB];rfl
theorem nG {L L':List Nat}{j t:Nat}(h:val L < 4294967296 ^ (j+t)) (hw:Win L L' j t):val L'=Sm (wd L) j+4294967296 ^ j * Sm (wn L' j) t:=by
 have h1:Sm (wd L') j=Sm (wd L) j:=dt fun i hi=>hw.2.2 i (.inl hi)
 have h2:Sm (wd L') (j+t)=val L':=by
  have hz:∀ i,j+t≤i→wd L' i=0:=fun i hi=>by rw [hw.2.2 i (.inr hi)];exact (mt h).2 i hi
  have:∀ d,Sm (wd L') (j+t+d)=Sm (wd L') (j+t):=by
   intro d
   induction d with
   | zero=>rfl
   | succ d ih=>rw [← Nat.add_assoc,Sm,hz _ (by omega),ih];simp
  have h3:=this L'.length;rw [aX L' (by omega)] at h3;exact h3.symm
 rw [← h2,pB,h1];rfl
theorem Win.trans {A B C:List Nat}{j t:Nat}(h:Win A B j t) (k:Win B C j t):Win A C j t :=
 ⟨k.1.trans h.1,k.2.1,fun i hi=>(k.2.2 i hi).trans (h.2.2 i hi)⟩

theorem tG (f:Nat→Nat) (nn:Nat):Sm f (nn+2)=f (nn+1) * (4294967296 ^ nn * 4294967296)+f nn * 4294967296 ^ nn+Sm f nn:=by
 rw [Sm,Sm,Nat.pow_succ];omega
theorem tH (f:Nat→Nat) (nn:Nat):Sm f (nn+3)=(f (nn+2) * 4294967296+f (nn+1)) * (4294967296 ^ nn * 4294967296)+f nn * 4294967296 ^ nn+Sm f nn:=by
 rw [Sm,tG,Nat.pow_succ,Nat.pow_succ,Nat.add_mul]
 have:f (nn+2) * (4294967296 ^ nn * 4294967296 * 4294967296)=f (nn+2) * 4294967296 * (4294967296 ^ nn * 4294967296):=by
  rw [Nat.mul_assoc (f (nn+2)),Nat.mul_comm 4294967296 (4294967296 ^ nn * 4294967296)]
 omega
theorem wE {head D third top lowv V P:Nat}(hP:P=head * (D * 4294967296)+third) (hV:V=top * (D * 4294967296)+lowv) (hl:lowv < D * 4294967296) (hlt:P < V * 4294967296):head < (top+1) * 4294967296:=by
 have h1:V < (top+1) * (D * 4294967296):=by rw [Nat.add_mul];omega
 have h2:V * 4294967296≤(top+1) * (D * 4294967296) * 4294967296:=Nat.mul_le_mul_right _ (Nat.le_of_lt h1)
 have h3:head * (D * 4294967296) < (top+1) * 4294967296 * (D * 4294967296):=by
  have:(top+1) * (D * 4294967296) * 4294967296=(top+1) * 4294967296 * (D * 4294967296):=by rw [Nat.mul_assoc,Nat.mul_comm (D * 4294967296),← Nat.mul_assoc]
  omega
 exact Nat.lt_of_mul_lt_mul_right h3
theorem tI {head top:Nat}(h:head < (top+1) * 4294967296) (ht:2147483648≤top):head / top≤4294967298:=by
 have:head / top < 4294967299:=by
  rw [Nat.div_lt_iff_lt_mul (by omega)];rw [Nat.add_mul] at h;have:4294967299 * top=top * 4294967296+3 * top:=by omega
  omega
 omega
theorem lO {P P1 g V q:Nat}(hV:0 < V) (hq:q=P / V) (hle:q≤g) (h:P1+g * V=P):g=q∧P1=P % V:=by
 have h1:g * V≤P:=by omega
 have h2:g≤P / V:=(Nat.le_div_iff_mul_le hV).2 h1;have h3:g=q:=by omega
 refine ⟨h3,?_⟩;have h4:=Nat.div_add_mod P V;rw [h3,hq,Nat.mul_comm] at h;omega
theorem nH {P P1 P2 g V q T c:Nat}(hV:0 < V) (hq:q=P / V) (hub:g≤q+1) (hP1:P1 < T) (h:P1+g * V=P+1 * T) (h2:P2+c * T=P1+V) (hc:c≤1) (hP2:P2 < T):g=q+1∧P2=P % V:=by
 have h0:=Nat.div_add_mod P V;have hm:=Nat.mod_lt P hV;rw [← hq] at h0
 have h1:q < g:=by
  rcases Nat.lt_or_ge q g with h1 | h1
  ·exact h1
  have:g * V≤q * V:=Nat.mul_le_mul_right _ h1;rw [Nat.mul_comm V q] at h0;omega
 have hg:g=q+1:=by omega
 refine ⟨hg,?_⟩;rw [hg,Nat.add_mul] at h;rw [Nat.mul_comm V q] at h0;rcases (show c=0∨c=1 by omega) with rfl | rfl
 ·omega
 omega
theorem yw {U0 V vq vu low Bj P q vu2:Nat}(h:vu+V * vq=U0) (hvu:vu=low+Bj * P) (hvu2:vu2=low+Bj * (P % V)) (hq:q=P / V) (hlow:low < Bj) (hV:0 < V):vu2+V * (vq+q * Bj)=U0∧vu2 < V * Bj:=by
 have h0:=Nat.div_add_mod P V;have hm:=Nat.mod_lt P hV;subst hq;constructor
 ·rw [hvu2,← h,hvu,Nat.mul_add]
  have:Bj * P=Bj * (P % V)+V * (P / V * Bj):=by
   conv=>lhs;rw [← h0]
   rw [Nat.mul_add,Nat.mul_comm (P / V),← Nat.mul_assoc V,Nat.mul_comm V Bj,Nat.mul_assoc];omega
  omega
 rw [hvu2];have:Bj * (P % V+1)≤Bj * V:=Nat.mul_le_mul_left _ hm;rw [Nat.mul_add] at this;rw [Nat.mul_comm V];omega
theorem rO {U low Bj P V:Nat}(hU:U=low+Bj * P) (h:U < V * (Bj * 4294967296)):P < V * 4294967296:=by
 have h1:Bj * P < Bj * (V * 4294967296):=by
  have:V * (Bj * 4294967296)=Bj * (V * 4294967296):=by rw [Nat.mul_left_comm]
  omega
 exact Nat.lt_of_mul_lt_mul_left h1
theorem rP {a b q r s:Nat}(hs:0 < s) (hb:0 < b) (h:r+b * s * q=a * s) (hr:r < b * s):q=a / b∧r / s=a % b:=by
 have h1:a * s / (b * s)=q:=by
  rw [← h,Nat.add_comm,Nat.mul_add_div (Nat.mul_pos hb hs),Nat.div_eq_of_lt hr];rfl
 have h2:a * s % (b * s)=r:=by
  rw [← h,Nat.add_comm,Nat.mul_add_mod,Nat.mod_eq_of_lt hr]
 rw [Nat.mul_div_mul_right _ _ hs] at h1;rw [Nat.mul_mod_mul_right] at h2;refine ⟨h1.symm,?_⟩;rw [← h2,Nat.mul_div_cancel _ hs]
end Bn
namespace Bn
theorem mu {l:List Nat}{k i:Nat}(h:i < k):wd (l.take k) i=wd l i:=by
 simp [wd,List.getD,h]
theorem tJ {l' Lv:List Nat}{nn m t0:Nat}(hc:Wds l') (hlen:l'.length=nn+2) (ht0:wd l' (nn+1)=t0) (hm1:2147483648≤t0 * 2 ^ m) (hm2:(t0+1) * 2 ^ m≤4294967296) (hLv:Lv.length=nn+3) (hW:Wds Lv) (hv:val Lv=val l' * 2 ^ m) :
 val (Lv.take (nn+2))=val l' * 2 ^ m∧2147483648≤wd Lv (nn+1):=by
 have hS:val l'=Sm (wd l') (nn+2):=by rw [eR,hlen]
 have hlow:Sm (wd l') (nn+1) < 4294967296 ^ (nn+1):=er (fun i _=>bF hc i);rw [Sm,ht0] at hS
 have hub:val l' * 2 ^ m < 4294967296 ^ (nn+2):=by
  have h1:val l' < (t0+1) * 4294967296 ^ (nn+1):=by rw [Nat.add_mul];omega
  have h2:val l' * 2 ^ m < (t0+1) * 4294967296 ^ (nn+1) * 2 ^ m:=Nat.mul_lt_mul_of_pos_right h1 (Nat.pow_pos (by omega));have h3:(t0+1) * 4294967296 ^ (nn+1) * 2 ^ m=(t0+1) * 2 ^ m * 4294967296 ^ (nn+1):=by rw [Nat.mul_assoc,Nat.mul_comm (4294967296 ^ (nn+1)),← Nat.mul_assoc]
  have h4:(t0+1) * 2 ^ m * 4294967296 ^ (nn+1)≤4294967296 * 4294967296 ^ (nn+1):=Nat.mul_le_mul_right _ hm2;have h5:4294967296 * 4294967296 ^ (nn+1)=4294967296 ^ (nn+2):=by rw [Nat.mul_comm,← Nat.pow_succ]
  omega
 have hh:=mt (L:=Lv) (N:=nn+2) (by rw [hv];exact hub)
 have htake:val (Lv.take (nn+2))=val l' * 2 ^ m:=by
  have hl:(Lv.take (nn+2)).length=nn+2:=by rw [List.length_take];omega
  rw [eR,hl,← hv,← hh.1];exact dt fun i hi=>mu hi
 refine ⟨htake,?_⟩;have h6:Sm (wd Lv) (nn+1) < 4294967296 ^ (nn+1):=er (fun i _=>bF hW i);have h7:=hh.1;rw [Sm,hv] at h7;rcases Nat.lt_or_ge (wd Lv (nn+1)) 2147483648 with h8 | h8
 ·exfalso
  have h9:(wd Lv (nn+1)+1) * 4294967296 ^ (nn+1)≤2147483648 * 4294967296 ^ (nn+1):=Nat.mul_le_mul_right _ h8;rw [Nat.add_mul] at h9;have h10:2147483648 * 4294967296 ^ (nn+1)≤t0 * 2 ^ m * 4294967296 ^ (nn+1):=Nat.mul_le_mul_right _ hm1
  have h11:t0 * 2 ^ m * 4294967296 ^ (nn+1)≤val l' * 2 ^ m:=by
   have:t0 * 4294967296 ^ (nn+1) * 2 ^ m≤val l' * 2 ^ m:=Nat.mul_le_mul_right _ (by omega);have e:t0 * 2 ^ m * 4294967296 ^ (nn+1)=t0 * 4294967296 ^ (nn+1) * 2 ^ m:=by rw [Nat.mul_assoc,Nat.mul_comm (2 ^ m),← Nat.mul_assoc]
   omega
  omega
 exact h8
theorem pD {x k m:Nat}(hk:k+m=31) (h1:2 ^ k≤x) (h2:x < 2 ^ (k+1)):2147483648≤x * 2 ^ m∧(x+1) * 2 ^ m≤4294967296:=by
 have e1:2 ^ k * 2 ^ m=2147483648:=by rw [← Nat.pow_add,hk]
 have e2:2 ^ (k+1) * 2 ^ m=4294967296:=by rw [← Nat.pow_add,show k+1+m=32 by omega]
 have h3:2 ^ k * 2 ^ m≤x * 2 ^ m:=Nat.mul_le_mul_right _ h1;have h4:(x+1) * 2 ^ m≤2 ^ (k+1) * 2 ^ m:=Nat.mul_le_mul_right _ h2;omega
end Bn
namespace Bn
theorem rQ {L lv:List Nat}{V nn k pa pb pc top next:Nat}(hWL:Wds L) (hWv:Wds lv) (hlen:lv.length=nn+2) (hV:val lv=V) (hk:0 < k) (hlt:val L < V * 4294967296 ^ k)
 (hpa:wd L (k - 1+(nn+2))=pa) (hpb:wd L (k - 1+(nn+1))=pb) (hpc:wd L (k - 1+nn)=pc) (htop:wd lv (nn+1)=top) (hnext:wd lv nn=next) :
 ∃ lowp lowv,Sm (wn L (k - 1)) (nn+3)=(pa * 4294967296+pb) * (4294967296 ^ nn * 4294967296)+pc * 4294967296 ^ nn+lowp∧lowp < 4294967296 ^ nn∧V=top * (4294967296 ^ nn * 4294967296)+next * 4294967296 ^ nn+lowv∧lowv < 4294967296 ^ nn ∧
  Sm (wn L (k - 1)) (nn+3) < V * 4294967296∧val L=Sm (wd L) (k - 1)+4294967296 ^ (k - 1) * Sm (wn L (k - 1)) (nn+3)∧val L < 4294967296 ^ (k - 1+(nn+3)):=by
 have hVb:V < 4294967296 ^ (nn+2):=by rw [← hV,← hlen];exact cF hWv
 have hLb:val L < 4294967296 ^ (k - 1+(nn+3)):=by
  have h1:V * 4294967296 ^ k≤4294967296 ^ (nn+2) * 4294967296 ^ k:=Nat.mul_le_mul_right _ (Nat.le_of_lt hVb);rw [← Nat.pow_add,show nn+2+k=k - 1+(nn+3) by omega] at h1;omega
 have hw:=pC hLb;refine ⟨Sm (wn L (k - 1)) nn,Sm (wd lv) nn,?_,er fun i _=>bF hWL _,?_,er fun i _=>bF hWv _,?_,hw,hLb⟩
 ·rw [tH];unfold wn;rw [hpa,hpb,hpc]
 ·rw [← hV,eR,hlen,tG,htop,hnext]
 apply rO (Bj:=4294967296 ^ (k - 1)) hw;have:4294967296 ^ k=4294967296 ^ (k - 1) * 4294967296:=by rw [← Nat.pow_succ];congr 1;omega
 rw [← this];exact hlt
theorem ku {P V D hd pc lowp top next lowv g r:Nat}(hP:P=hd * (D * 4294967296)+pc * D+lowp) (hlp:lowp < D) (hV:V=top * (D * 4294967296)+next * D+lowv) (hVp:0 < V) (hPV:P < V * 4294967296) (hg:g * top+r=hd)
 (h:4294967296≤g∨r * 4294967296+pc < g * next):P / V < g:=by
 have hq:P / V * V≤P:=Nat.div_mul_le_self _ _;rcases h with h | h
 ·have:P / V < 4294967296:=by rw [Nat.div_lt_iff_lt_mul hVp,Nat.mul_comm];exact hPV
  omega
 exact tA (third:=0) hP hlp hV hg hq h
theorem kw {P V D hd pc lowp top next lowv g r:Nat}(hP:P=hd * (D * 4294967296)+pc * D+lowp) (hV:V=top * (D * 4294967296)+next * D+lowv) (hlv:lowv < D) (hVp:0 < V) (htop:0 < top) (hnext:next < 4294967296) (hhd:hd < (top+1) * 4294967296) (hg:g * top+r=hd)
 (h:4294967296≤r∨(g < 4294967296∧g * next≤r * 4294967296+pc)):g < 4294967296∧g≤P / V+1:=by
 have hgB:g < 4294967296:=by
  rcases h with h | h
  ·rcases Nat.lt_or_ge g 4294967296 with h1 | h1
   ·exact h1
   have:=nD hhd hg h1;omega
  exact h.1
 refine ⟨hgB,?_⟩
 have hq:P < (P / V+1) * V:=by
  have h0:=Nat.div_add_mod P V;have hm:=Nat.mod_lt P hVp;rw [Nat.add_mul,Nat.mul_comm (P / V)];omega
 exact tB hP hV hlv hg hq htop (by omega) hnext (h.imp id fun h=>h.2)
theorem nI {P V D hd pc lowp top next lowv pb:Nat}(hP:P=hd * (D * 4294967296)+pc * D+lowp) (hlp:lowp < D) (hpc:pc < 4294967296) (hV:V=top * (D * 4294967296)+next * D+lowv) (htop:0 < top):P / V≤hd / top:=by
 have _:=pb;have hq:P / V * V≤P:=Nat.div_mul_le_self _ _;refine tz (D:=D * 4294967296) (third:=pc * D+lowp) (low:=next * D+lowv) (v:=V) (head:=hd) (P:=P) (by omega) ?_ (by omega) hq htop;have h1:(pc+1) * D≤4294967296 * D:=Nat.mul_le_mul_right _ hpc;rw [Nat.add_mul,Nat.mul_comm 4294967296] at h1;omega
end Bn

/- Walks: a multiple taken from a window of words, and added back, in place. -/
namespace Go.Proofs.YtndhgcfajlalhaaGreatDoor
open Go Go.RowKit Bn
attribute [local go_sem ↓] Go.wp_at_zero Go.wp_at_succ

theorem Wd.keepG {w w':World}{A:Option Addr}{n c g:Nat}{l:List Nat}(h:Wd w A n c l) (hne:∀ a,A=some a→a.block≠g) (hg:w.grownBy w' (some g)):Wd w' A n c l :=
 ⟨h.1,h.2.1,h.2.2.1,fun hn=>by
  obtain ⟨g',o,cur,fr,e,hb,hc⟩:=h.2.2.2 hn;refine ⟨g',o,cur,fr,e,?_,hc⟩
  exact hb.same (hg.block g' hb.lt (by intro e2;injection e2 with e2;exact hne _ e e2))⟩
theorem lP (w:World) (row:Option Nat):w.grownBy w row:=⟨rfl,rfl,rfl,Qr,fun _ _ _=>rfl⟩
theorem only_drewN {a w:World}{row:Option Nat}(h:a.grownBy w row) (n:Nat):a.grownBy (w.drewN n) row:=⟨h.os,h.tape,h.output,h.size,h.block⟩
theorem nJ {a w:World}{g:Nat}(h:a.grownBy w (some g)) (i:Nat) (u:Value):a.grownBy (w.setCell ⟨g,i,none⟩ u) (some g) :=
 ⟨h.os,h.tape,h.output,by simpa [World.setCell] using h.size,fun i' hi hne=>(Below.heap_setCell w _ u i' (by
  rintro rfl
  exact hne rfl)).trans (h.block i' hi hne)⟩

theorem nK {x y cr br q:Nat}(hx:x < 4294967296) (hy:y < 4294967296) (hc:cr < 4294967296) (hq:q < 4294967296) (hbr:br≤1) {p s d1 d2:Int}(h1:IntKind.u64.wrap ((q:Int) * (y:Int))=p) (h2:IntKind.u64.wrap ((cr:Int)+p)=s)
 (h3:IntKind.u64.wrap ((x:Int) - s % 4294967296)=d1) (h4:IntKind.u64.wrap (d1 - (br:Int))=d2) :
 ∃ c' b' lo:Nat,c' < 4294967296∧b'≤1∧lo < 4294967296∧s / 4294967296=(c':Int)∧d2 / 9223372036854775808=(b':Int)∧d2 % 4294967296=(lo:Int)∧lo+q * y+br+cr=x+(c'+b') * 4294967296∧(y=0→c'=0):=by
 have hy0:y=0→q * y=0:=by rintro rfl;rfl
 rw [IntKind.wrap_u64] at h1 h2;have hxy:q * y≤4294967295 * 4294967295:=Nat.mul_le_mul (by omega) (by omega);have e:(q:Int) * (y:Int)=((q * y:Nat):Int):=by simp
 rw [e] at h1;generalize q * y=z at *;have hs:s=((cr+z:Nat):Int):=by omega
 subst hs;have e2:(((cr+z:Nat):Int)) % 4294967296=(((cr+z) % 4294967296:Nat):Int):=by omega
 rw [e2] at h3;obtain ⟨b',lo,hb',hlo,e63,e32,hh⟩:=lN hx (Nat.mod_lt (cr+z) (by omega)) hbr h3 h4;exact ⟨(cr+z) / 4294967296,b',lo,by omega,hb',hlo,by omega,e63,e32,by omega,fun h=>by rw [hy0 h];omega⟩

def Bi (L L' l':List Nat) (off nu q k cr br:Nat):Prop:=Win L L' off nu∧((∀ j,off+k≤j→wd L' j=wd L j)∧(l'.length < k→cr=0))∧Sm (wn L' off) k+q * Sm (wd l') k=Sm (wn L off) k+(cr+br) * 4294967296 ^ k
theorem wF {SU' qSv SU crbr x lo q y br cr c' b' P PB:Nat}(h:SU'+qSv=SU+crbr * P) (e:crbr=cr+br) (hl:lo+q * y+br+cr=x+(c'+b') * 4294967296) (hP:PB=P * 4294967296):SU'+lo * P+(qSv+q * y * P)=SU+x * P+(c'+b') * PB:=by
 subst e;subst hP;have h1:(lo+q * y+br+cr) * P=(x+(c'+b') * 4294967296) * P:=by rw [hl]
 have h2:(c'+b') * (P * 4294967296)=(c'+b') * 4294967296 * P:=by rw [Nat.mul_comm P,Nat.mul_assoc]
 rw [Nat.add_mul,Nat.add_mul,Nat.add_mul,Nat.add_mul] at h1;rw [Nat.add_mul] at h;rw [h2];omega
theorem nL (w:World) (gu off nu cu:Nat) (L:List Nat) (hBl:Blk w gu 173 (cellsOf L)) (hWL:Wds L) (hoff:off+nu≤L.length) (hnu:nu≤4398046511104)
 (A' n' c' l') (wb:Wd w A' n' c' l') (hne:∀ a,A'=some a→a.block≠gu) (hlt:n' < nu) (q:Nat) (hq:q < 4294967296) :
 Calls Tryz.prog 201 #[.slice (some ⟨gu,off,none⟩) nu cu,.slice A' n' c',.int .u64 (q:Nat)] w fun e w'=>∃ (L':List Nat) (b:Nat),b≤1∧e=.returned (.bool (b == 1))∧Blk w' gu 173 (cellsOf L')∧Win L L' off nu∧Sm (wn L' off) nu+q * val l'=Sm (wn L off) nu+b * 4294967296 ^ nu∧w.grownBy w' (some gu):=by
 have HL':=Qh wb.2.1;have HBL:=Qh hBl;clear hBl;go_in;go_wp2;go_loopw [7,8,13] (fun cv bv iv wr=>∃ (k cr br:Nat) (L':List Nat),k≤nu∧iv=.int .i64 (k:Nat)∧cv=.int .u64 (cr:Nat)∧bv=.int .u64 (br:Nat)∧cr < 4294967296∧br≤1∧Bi L L' l' off nu q k cr br∧Blk wr gu 173 (cellsOf L')∧w.grownBy wr (some gu)) (fun _ _ iv _=>nu - (intOf iv).toNat)
 case atStart=>exact ⟨0,0,0,L,Nat.zero_le _,rfl,rfl,rfl,by omega,by omega,⟨⟨rfl,hWL,fun _ _=>rfl⟩,⟨fun _ _=>rfl,fun h=>absurd h (by omega)⟩,by simp [Sm]⟩,HBL.out,lP _ _⟩
 case round =>
  obtain ⟨k,cr,br,L',hk,rfl,rfl,rfl,hcr,hbr,hI,hB,hg⟩:=hrel;have HI:=Qh hI;have HB:=Qh hB;have HG:=Qh hg;clear hI hB hg;by_cases hkn:k < nu
  ·obtain ⟨x,y,hx,hy⟩:∃ x y,wd L (off+k)=x∧wd l' k=y:=⟨_,_,rfl,rfl⟩
   have hx1:x < 4294967296:=by rw [← hx];exact bF hWL _
   have hy1:y < 4294967296:=by rw [← hy];exact wb.lt _
   have hck:=HB.out.cell (off+k);rw [az (by rw [HI.out.1.1];omega),HI.out.2.1.1 _ Qr,hx] at hck;have hfk:=HB.out.frozen (off+k);have HX:=Qh hx;have HY:=Qh hy;obtain ⟨p,hp⟩:∃ d,IntKind.u64.wrap ((q:Int) * (y:Int))=d:=⟨_,rfl⟩;obtain ⟨s,hs⟩:∃ d,IntKind.u64.wrap ((cr:Int)+p)=d:=⟨_,rfl⟩;obtain ⟨d1,hd1⟩:∃ d,IntKind.u64.wrap ((x:Int) - s % 4294967296)=d:=⟨_,rfl⟩;obtain ⟨d2,hd2⟩:∃ d,IntKind.u64.wrap (d1 - (br:Int))=d:=⟨_,rfl⟩;have HD:=Qh (nK hx1 hy1 hcr hq hbr hp hs hd1 hd2);clear hx hy;go_wp2_with (go_at_call 172;(refine (kr _ A' n' c' l' ?_ k y HY.out (by omega)).mono ?_);exact wb.keepG hne HG.out;rintro e w' ⟨rfl,rfl⟩);clear hp hs hd1 hd2;obtain ⟨cn,bn,lo,hcn,hbn,hlo,ec,eb,el,hh,hz⟩:=HD.out;rw [ec,eb];go_roundw
   case rel =>
    refine ⟨k+1,cn,bn,L'.set (off+k) lo,by omega,by go_num,rfl,rfl,hcn,hbn,⟨⟨by rw [List.length_set];exact HI.out.1.1,wds_set HI.out.1.2.1 _ hlo,?_⟩,⟨?_,?_⟩,?_⟩,HB.out.setW (off+k) _ _ el,nJ HG.out _ _⟩
    ·intro j hj;rw [bP,if_neg (by omega)];exact HI.out.1.2.2 j hj
    ·intro j hj;rw [bP,if_neg (by omega)];exact HI.out.2.1.1 j (by omega)
    ·intro hlk
     apply hz;rw [← HY.out];exact dN (by omega)
    have e1:Sm (wn (L'.set (off+k) lo) off) k=Sm (wn L' off) k:=dt fun j hj=>by unfold wn;rw [bP,if_neg (by omega)]
    have e2:wn (L'.set (off+k) lo) off k=lo:=by unfold wn;rw [bP,if_pos ⟨rfl,by rw [HI.out.1.1];omega⟩]
    have e3:wn L off k=x:=HX.out;rw [Sm,Sm,Sm,e1,e2,e3,HY.out,Nat.mul_add,← Nat.mul_assoc];exact wF HI.out.2.2 rfl hh (by rw [Nat.pow_succ])
   case measure=>simp [intOf];omega
  have hkk:k=nu:=by omega
  subst hkk
  have hcz:cr=0:=by
   exact HI.out.2.1.2 (by rw [← HL'.out];exact hlt)
  have HC:=Qh hcz;clear hcz;go_wp2;go_ret;refine ⟨L',br,hbr,?_,HB.out,HI.out.1,?_,HG.out⟩
  ·rcases (show br=0∨br=1 by omega) with rfl | rfl <;> rfl
  have h1:=HI.out.2.2;rw [HC.out,Nat.zero_add,aX l' (by rw [← HL'.out];omega)] at h1;exact h1
theorem rR {x y cr:Nat}(hx:x < 4294967296) (hy:y < 4294967296) (hc:cr≤1) {p s:Int}(h1:IntKind.u64.wrap ((x:Int)+(y:Int))=p) (h2:IntKind.u64.wrap ((cr:Int)+p)=s):s=((cr+x+y:Nat):Int)∧(cr+x+y) / 4294967296≤1:=by
 rw [IntKind.wrap_u64] at h1 h2;omega
def zQ (L L' l':List Nat) (off nu k cr:Nat):Prop:=Win L L' off nu∧(∀ j,off+k≤j→wd L' j=wd L j)∧Sm (wn L' off) k+cr * 4294967296 ^ k=Sm (wn L off) k+Sm (wd l') k
theorem tK (w:World) (gu off nu cu:Nat) (L:List Nat) (hBl:Blk w gu 173 (cellsOf L)) (hWL:Wds L) (hoff:off+nu≤L.length) (hnu:nu≤4398046511104)
 (A' n' c' l') (wb:Wd w A' n' c' l') (hne:∀ a,A'=some a→a.block≠gu) (hlt:n'≤nu) :
 Calls Tryz.prog 202 #[.slice (some ⟨gu,off,none⟩) nu cu,.slice A' n' c'] w fun e w'=>∃ (L':List Nat) (cr:Nat),cr≤1∧e=.returned (.tuple #[])∧Blk w' gu 173 (cellsOf L')∧Win L L' off nu∧Sm (wn L' off) nu+cr * 4294967296 ^ nu=Sm (wn L off) nu+val l'∧w.grownBy w' (some gu):=by
 have HL':=Qh wb.2.1;have HBL:=Qh hBl;clear hBl;go_in;go_wp2;go_loopw [4,8] (fun cv iv wr=>∃ (k cr:Nat) (L':List Nat),k≤nu∧iv=.int .i64 (k:Nat)∧cv=.int .u64 (cr:Nat)∧cr≤1∧zQ L L' l' off nu k cr∧Blk wr gu 173 (cellsOf L')∧w.grownBy wr (some gu)) (fun _ iv _=>nu - (intOf iv).toNat)
 case atStart=>exact ⟨0,0,L,Nat.zero_le _,rfl,rfl,by omega,⟨⟨rfl,hWL,fun _ _=>rfl⟩,fun _ _=>rfl,by simp [Sm]⟩,HBL.out,lP _ _⟩
 case round =>
  obtain ⟨k,cr,L',hk,rfl,rfl,hcr,hI,hB,hg⟩:=hrel;have HI:=Qh hI;have HB:=Qh hB;have HG:=Qh hg;clear hI hB hg;by_cases hkn:k < nu
  ·obtain ⟨x,y,hx,hy⟩:∃ x y,wd L (off+k)=x∧wd l' k=y:=⟨_,_,rfl,rfl⟩
   have hx1:x < 4294967296:=by rw [← hx];exact bF hWL _
   have hy1:y < 4294967296:=by rw [← hy];exact wb.lt _
   have hck:=HB.out.cell (off+k);rw [az (by rw [HI.out.1.1];omega),HI.out.2.1 _ Qr,hx] at hck;have hfk:=HB.out.frozen (off+k);have HX:=Qh hx;have HY:=Qh hy;have hk0:(0:Int)≤(k:Int):=by omega
   have hk1:(k:Int) < (nu:Int):=by omega
   have e1:IntKind.u64.wrap (x:Int)=(x:Int):=IntWalk.u64_in _ ⟨by omega,by omega⟩;obtain ⟨p,hp⟩:∃ d,IntKind.u64.wrap ((x:Int)+(y:Int))=d:=⟨_,rfl⟩;obtain ⟨s,hs⟩:∃ d,IntKind.u64.wrap ((cr:Int)+p)=d:=⟨_,rfl⟩;have HD:=Qh (rR hx1 hy1 hcr hp hs);clear hx hy;go_wp2_with fail;go_quiet ((go_at_call 172;exact Calls.quiet_of_same (tr _ A' n' c' l' ((wb.keepG hne HG.out).keep ((Kp.refl _).drewN _)) k y HY.out (by omega))));clear hp hs e1;go_wp2;obtain ⟨es,hs2⟩:=HD.out;rw [es];go_roundw
   case rel =>
    refine ⟨k+1,(cr+x+y) / 4294967296,L'.set (off+k) ((cr+x+y) % 4294967296),by omega,by go_num,by go_num,hs2,⟨⟨by rw [List.length_set];exact HI.out.1.1,wds_set HI.out.1.2.1 _ (Nat.mod_lt _ (by omega)),?_⟩,?_,?_⟩,?_,nJ (only_drewN HG.out _) _ _⟩
    ·intro j hj;rw [bP,if_neg (by omega)];exact HI.out.1.2.2 j hj
    ·intro j hj;rw [bP,if_neg (by omega)];exact HI.out.2.1 j (by omega)
    ·have e1:Sm (wn (L'.set (off+k) ((cr+x+y) % 4294967296)) off) k=Sm (wn L' off) k:=dt fun j hj=>by unfold wn;rw [bP,if_neg (by omega)]
     have e2:wn (L'.set (off+k) ((cr+x+y) % 4294967296)) off k=(cr+x+y) % 4294967296:=by unfold wn;rw [bP,if_pos ⟨rfl,by rw [HI.out.1.1];omega⟩]
     have e3:wn L off k=x:=HX.out;rw [Sm,Sm,Sm,e1,e2,e3,HY.out,Nat.pow_succ];exact fZ HI.out.2.2
    exact (HB.out.drewN _).setW (off+k) _ _ (by omega)
   case measure=>simp [intOf];omega
  have hkk:k=nu:=by omega
  subst hkk;go_wp2;go_end0;refine ⟨L',cr,hcr,rfl,HB.out,HI.out.1,?_,HG.out⟩;have h1:=HI.out.2.2;rw [aX l' (by rw [← HL'.out];omega)] at h1;exact h1
end Go.Proofs.YtndhgcfajlalhaaGreatDoor
namespace Go.Proofs
open Go.Shelf
def Tryz.lays170_ren:Go.Shelf.Ren:=⟨fun | 170=>65 | n=>n,fun | 70=>101 | 3=>3 | 0=>0 | 72=>104 | 37=>102 | 5=>5 | n=>n,fun | n=>n⟩
theorem Tryz.lays170:Go.Proofs.Lays.n170 Tryz.prog Tryz.lays170_ren:={
 mixed:=by kernel_rfl
 f170:=Tryz.func65.trans (congrArg some (by kernel_rfl))
 t0:=Tryz.underlying0
 a0:=Tryz.isAgg0
 z0:=Tryz.sizeOf0
 v0:=Tryz.zeroValue0
 t3:=Tryz.underlying3
 a3:=Tryz.isAgg3
 z3:=Tryz.sizeOf3
 v3:=Tryz.zeroValue3
 t37:=Tryz.underlying102
 a37:=Tryz.isAgg102
 z37:=Tryz.sizeOf102
 v37:=Tryz.zeroValue102
 t70:=Tryz.underlying101
 a70:=Tryz.isAgg101
 z70:=Tryz.sizeOf101
 v70:=Tryz.zeroValue101
 t72:=Tryz.underlying104
 a72:=Tryz.isAgg104
 z72:=Tryz.sizeOf104
 v72:=Tryz.zeroValue104 }
open Go.RowKit in
theorem Tryz.Builder_Len (B b:Nat) (bs:List Value) (w:World) (h:Lib.IsBuilder 104 5 B b bs w) :
 Calls Tryz.prog 65 #[.pointer (some ⟨b,0,none⟩)] w fun e w'=>e=.returned (.int .i64 bs.length)∧w'=w:=Any.Builder_Len Tryz.lays170 B b bs w h
def Tryz.lays169_ren:Go.Shelf.Ren:=⟨fun | 169=>67 | n=>n,fun | 70=>101 | 9=>9 | 0=>0 | 72=>104 | 37=>102 | 127=>150 | 3=>3 | 5=>5 | n=>n,fun | n=>n⟩
theorem Tryz.lays169:Go.Proofs.Lays.n169 Tryz.prog Tryz.lays169_ren:={
 mixed:=by kernel_rfl
 f169:=Tryz.func67.trans (congrArg some (by kernel_rfl))
 t0:=Tryz.underlying0
 a0:=Tryz.isAgg0
 z0:=Tryz.sizeOf0
 v0:=Tryz.zeroValue0
 t3:=Tryz.underlying3
 a3:=Tryz.isAgg3
 z3:=Tryz.sizeOf3
 v3:=Tryz.zeroValue3
 t9:=Tryz.underlying9
 a9:=Tryz.isAgg9
 z9:=Tryz.sizeOf9
 v9:=Tryz.zeroValue9
 t37:=Tryz.underlying102
 a37:=Tryz.isAgg102
 z37:=Tryz.sizeOf102
 v37:=Tryz.zeroValue102
 t70:=Tryz.underlying101
 a70:=Tryz.isAgg101
 z70:=Tryz.sizeOf101
 v70:=Tryz.zeroValue101
 t72:=Tryz.underlying104
 a72:=Tryz.isAgg104
 z72:=Tryz.sizeOf104
 v72:=Tryz.zeroValue104
 t127:=Tryz.underlying150
 a127:=Tryz.isAgg150
 z127:=Tryz.sizeOf150
 v127:=Tryz.zeroValue150 }
theorem Tryz.Builder_Extra_169:Builder.Extra Tryz.prog Tryz.lays169_ren:={
 sizeBuilder:=by kernel_rfl
 liesBuilder:=by kernel_rfl
 t5:=Tryz.underlying5
 a5:=Tryz.isAgg5
 z5:=Tryz.sizeOf5
 v5:=Tryz.zeroValue5
 infoByte:=by kernel_rfl
 cellsByte:=by kernel_rfl
 sizeByte:=by kernel_rfl
 neB5:=by decide }
open Go.RowKit in
theorem Tryz.Builder_String_any (B b:Nat) (l:List UInt8) (w:World) (h:Lib.IsBuilder 104 5 B b (Lib.byteCells l) w) (hBw:B≤w.heap.size) :
 Calls Tryz.prog 67 #[.pointer (some ⟨b,0,none⟩)] w fun e w'=>e=.returned (.string ⟨l.toArray⟩)∧Below B w w':=Any.Builder_String_any Tryz.lays169 Tryz.Builder_Extra_169 B b l w h hBw
def Tryz.lays156_ren:Go.Shelf.Ren:=⟨fun | 156=>64 | 165=>102 | 166=>61 | 169=>67 | 240=>101 | 241=>145 | 276=>144 | 277=>173 | n=>n,fun | 31=>109 | 9=>9 | 3=>3 | 4=>4 | 0=>0 | 20=>20 | 72=>104 | 76=>105 | 70=>101 | 37=>102 | 75=>34 | 127=>150 | 164=>187 | 5=>5 | 80=>112 | n=>n,fun | n=>n⟩
theorem Tryz.lays156:Go.Proofs.Lays.n156 Tryz.prog Tryz.lays156_ren:={
 mixed:=by kernel_rfl
 f156:=Tryz.func64.trans (congrArg some (by kernel_rfl))
 f165:=Tryz.func102.trans (congrArg some (by kernel_rfl))
 f166:=Tryz.func61.trans (congrArg some (by kernel_rfl))
 f169:=Tryz.func67.trans (congrArg some (by kernel_rfl))
 f240:=Tryz.func101.trans (congrArg some (by kernel_rfl))
 f241:=Tryz.func145.trans (congrArg some (by kernel_rfl))
 f276:=Tryz.func144.trans (congrArg some (by kernel_rfl))
 f277:=Tryz.func173.trans (congrArg some (by kernel_rfl))
 t0:=Tryz.underlying0
 a0:=Tryz.isAgg0
 z0:=Tryz.sizeOf0
 v0:=Tryz.zeroValue0
 t3:=Tryz.underlying3
 a3:=Tryz.isAgg3
 z3:=Tryz.sizeOf3
 v3:=Tryz.zeroValue3
 t4:=Tryz.underlying4
 a4:=Tryz.isAgg4
 z4:=Tryz.sizeOf4
 v4:=Tryz.zeroValue4
 t9:=Tryz.underlying9
 a9:=Tryz.isAgg9
 z9:=Tryz.sizeOf9
 v9:=Tryz.zeroValue9
 t20:=Tryz.underlying20
 a20:=Tryz.isAgg20
 z20:=Tryz.sizeOf20
 v20:=Tryz.zeroValue20
 t31:=Tryz.underlying109
 a31:=Tryz.isAgg109
 z31:=Tryz.sizeOf109
 v31:=Tryz.zeroValue109
 t37:=Tryz.underlying102
 a37:=Tryz.isAgg102
 z37:=Tryz.sizeOf102
 v37:=Tryz.zeroValue102
 t70:=Tryz.underlying101
 a70:=Tryz.isAgg101
 z70:=Tryz.sizeOf101
 v70:=Tryz.zeroValue101
 t72:=Tryz.underlying104
 a72:=Tryz.isAgg104
 z72:=Tryz.sizeOf104
 v72:=Tryz.zeroValue104
 t75:=Tryz.underlying34
 a75:=Tryz.isAgg34
 z75:=Tryz.sizeOf34
 v75:=Tryz.zeroValue34
 t76:=Tryz.underlying105
 a76:=Tryz.isAgg105
 z76:=Tryz.sizeOf105
 v76:=Tryz.zeroValue105
 t127:=Tryz.underlying150
 a127:=Tryz.isAgg150
 z127:=Tryz.sizeOf150
 v127:=Tryz.zeroValue150
 t164:=Tryz.underlying187
 a164:=Tryz.isAgg187
 z164:=Tryz.sizeOf187
 v164:=Tryz.zeroValue187 }
theorem Tryz.Builder_Extra_156:Builder.Extra Tryz.prog Tryz.lays156_ren:={
 sizeBuilder:=by kernel_rfl
 liesBuilder:=by kernel_rfl
 t5:=Tryz.underlying5
 a5:=Tryz.isAgg5
 z5:=Tryz.sizeOf5
 v5:=Tryz.zeroValue5
 infoByte:=by kernel_rfl
 cellsByte:=by kernel_rfl
 sizeByte:=by kernel_rfl
 neB5:=by decide }
open Go.RowKit in
theorem Tryz.strings_Join_none (a:Option Addr) (c:Nat) (sep:ByteArray) (w:World) :
 Calls Tryz.prog 64 #[.slice a 0 c,.string sep] w fun e w'=>e=.returned (.string ⟨#[]⟩)∧w'=w:=Any.strings_Join_none Tryz.lays156 Tryz.Builder_Extra_156 a c sep w
open Go.RowKit in
theorem Tryz.strings_Join (bk o c:Nat) (xs:List ByteArray) (sep:ByteArray) (w:World) (hcells:∀ (j:Nat) x,xs[j]?=some x→w.cell? ⟨bk,o+j,none⟩=some (.string x)) (hbk:bk < w.heap.size) (hN:xs.length≤140737488355328) (hcap:xs.length≤c) (hlen:(Lib.join (xs.map (·.data.toList)) sep.data.toList).length≤140737488355328) :
 Calls Tryz.prog 64 #[.slice (some ⟨bk,o,none⟩) xs.length c,.string sep] w fun e w'=>e=.returned (.string ⟨(Lib.join (xs.map (·.data.toList)) sep.data.toList).toArray⟩)∧Below w.heap.size w w':=Any.strings_Join Tryz.lays156 Tryz.Builder_Extra_156 bk o c xs sep w hcells hbk hN hcap hlen
def Tryz.lays161_ren:Go.Shelf.Ren:=⟨fun | 161=>157 | 231=>180 | 227=>182 | 233=>183 | 235=>185 | 228=>208 | 197=>209 | 151=>210 | 260=>224 | 152=>225 | 137=>146 | 119=>235 | 224=>206 | 225=>205 | 217=>174 | 266=>204 | n=>n,fun | 9=>9 | 4=>4 | 3=>3 | 5=>5 | 117=>209 | 116=>208 | 0=>0 | 124=>212 | 105=>220 | 21=>21 | 119=>246 | 46=>181 | 139=>249 | 138=>248 | n=>n,fun | 3=>4 | 4=>5 | n=>n⟩
theorem Tryz.lays161:Go.Proofs.Lays.n161 Tryz.prog Tryz.lays161_ren:={
 mixed:=by kernel_rfl
 f119:=Tryz.func235.trans (congrArg some (by kernel_rfl))
 f137:=Tryz.func146.trans (congrArg some (by kernel_rfl))
 f151:=Tryz.func210.trans (congrArg some (by kernel_rfl))
 f152:=Tryz.func225.trans (congrArg some (by kernel_rfl))
 f161:=Tryz.func157.trans (congrArg some (by kernel_rfl))
 f197:=Tryz.func209.trans (congrArg some (by kernel_rfl))
 f217:=Tryz.func174.trans (congrArg some (by kernel_rfl))
 f224:=Tryz.func206.trans (congrArg some (by kernel_rfl))
 f225:=Tryz.func205.trans (congrArg some (by kernel_rfl))
 f227:=Tryz.func182.trans (congrArg some (by kernel_rfl))
 f228:=Tryz.func208.trans (congrArg some (by kernel_rfl))
 f231:=Tryz.func180.trans (congrArg some (by kernel_rfl))
 f233:=Tryz.func183.trans (congrArg some (by kernel_rfl))
 f235:=Tryz.func185.trans (congrArg some (by kernel_rfl))
 f260:=Tryz.func224.trans (congrArg some (by kernel_rfl))
 f266:=Tryz.func204.trans (congrArg some (by kernel_rfl))
 t0:=Tryz.underlying0
 a0:=Tryz.isAgg0
 z0:=Tryz.sizeOf0
 v0:=Tryz.zeroValue0
 t3:=Tryz.underlying3
 a3:=Tryz.isAgg3
 z3:=Tryz.sizeOf3
 v3:=Tryz.zeroValue3
 t4:=Tryz.underlying4
 a4:=Tryz.isAgg4
 z4:=Tryz.sizeOf4
 v4:=Tryz.zeroValue4
 t5:=Tryz.underlying5
 a5:=Tryz.isAgg5
 z5:=Tryz.sizeOf5
 v5:=Tryz.zeroValue5
 t9:=Tryz.underlying9
 a9:=Tryz.isAgg9
 z9:=Tryz.sizeOf9
 v9:=Tryz.zeroValue9
 t21:=Tryz.underlying21
 a21:=Tryz.isAgg21
 z21:=Tryz.sizeOf21
 v21:=Tryz.zeroValue21
 t46:=Tryz.underlying181
 a46:=Tryz.isAgg181
 z46:=Tryz.sizeOf181
 v46:=Tryz.zeroValue181
 t105:=Tryz.underlying220
 a105:=Tryz.isAgg220
 z105:=Tryz.sizeOf220
 v105:=Tryz.zeroValue220
 t116:=Tryz.underlying208
 a116:=Tryz.isAgg208
 z116:=Tryz.sizeOf208
 t117:=Tryz.underlying209
 a117:=Tryz.isAgg209
 z117:=Tryz.sizeOf209
 v117:=Tryz.zeroValue209
 t119:=Tryz.underlying246
 a119:=Tryz.isAgg246
 z119:=Tryz.sizeOf246
 t124:=Tryz.underlying212
 a124:=Tryz.isAgg212
 z124:=Tryz.sizeOf212
 v124:=Tryz.zeroValue212
 t138:=Tryz.underlying248
 a138:=Tryz.isAgg248
 z138:=Tryz.sizeOf248
 v138:=Tryz.zeroValue248
 t139:=Tryz.underlying249
 a139:=Tryz.isAgg249
 z139:=Tryz.sizeOf249
 v139:=Tryz.zeroValue249
 g3:=by kernel_rfl
 g4:=by kernel_rfl }
open Go.RowKit in
theorem Tryz.strings_TrimLeft_one (s:ByteArray) (c:UInt8) (hc:c.toNat < 128) (w:World) :
 Calls Tryz.prog 157 #[.string s,.string ⟨#[c]⟩] w fun e w'=>e=.returned (.string ⟨(Lib.trimLeftB s.data.toList c).toArray⟩)∧w'=w:=Any.strings_TrimLeft_one Tryz.lays161 s c hc w
def Tryz.lays160_ren:Go.Shelf.Ren:=⟨fun | 160=>154 | 232=>181 | 231=>180 | 227=>182 | 234=>184 | 233=>183 | 236=>186 | 235=>185 | 228=>208 | 271=>211 | 151=>210 | 197=>209 | 120=>226 | 152=>225 | 260=>224 | 137=>146 | 119=>235 | 224=>206 | 225=>205 | 217=>174 | 266=>204 | n=>n,fun | 9=>9 | 4=>4 | 3=>3 | 5=>5 | 117=>209 | 116=>208 | 0=>0 | 124=>212 | 21=>21 | 105=>220 | 46=>181 | 119=>246 | 139=>249 | 138=>248 | n=>n,fun | 3=>4 | 4=>5 | n=>n⟩
theorem Tryz.lays160:Go.Proofs.Lays.n160 Tryz.prog Tryz.lays160_ren:={
 mixed:=by kernel_rfl
 f119:=Tryz.func235.trans (congrArg some (by kernel_rfl))
 f120:=Tryz.func226.trans (congrArg some (by kernel_rfl))
 f137:=Tryz.func146.trans (congrArg some (by kernel_rfl))
 f151:=Tryz.func210.trans (congrArg some (by kernel_rfl))
 f152:=Tryz.func225.trans (congrArg some (by kernel_rfl))
 f160:=Tryz.func154.trans (congrArg some (by kernel_rfl))
 f197:=Tryz.func209.trans (congrArg some (by kernel_rfl))
 f217:=Tryz.func174.trans (congrArg some (by kernel_rfl))
 f224:=Tryz.func206.trans (congrArg some (by kernel_rfl))
 f225:=Tryz.func205.trans (congrArg some (by kernel_rfl))
 f227:=Tryz.func182.trans (congrArg some (by kernel_rfl))
 f228:=Tryz.func208.trans (congrArg some (by kernel_rfl))
 f231:=Tryz.func180.trans (congrArg some (by kernel_rfl))
 f232:=Tryz.func181.trans (congrArg some (by kernel_rfl))
 f233:=Tryz.func183.trans (congrArg some (by kernel_rfl))
 f234:=Tryz.func184.trans (congrArg some (by kernel_rfl))
 f235:=Tryz.func185.trans (congrArg some (by kernel_rfl))
 f236:=Tryz.func186.trans (congrArg some (by kernel_rfl))
 f260:=Tryz.func224.trans (congrArg some (by kernel_rfl))
 f266:=Tryz.func204.trans (congrArg some (by kernel_rfl))
 f271:=Tryz.func211.trans (congrArg some (by kernel_rfl))
 t0:=Tryz.underlying0
 a0:=Tryz.isAgg0
 z0:=Tryz.sizeOf0
 v0:=Tryz.zeroValue0
 t3:=Tryz.underlying3
 a3:=Tryz.isAgg3
 z3:=Tryz.sizeOf3
 v3:=Tryz.zeroValue3
 t4:=Tryz.underlying4
 a4:=Tryz.isAgg4
 z4:=Tryz.sizeOf4
 v4:=Tryz.zeroValue4
 t5:=Tryz.underlying5
 a5:=Tryz.isAgg5
 z5:=Tryz.sizeOf5
 v5:=Tryz.zeroValue5
 t9:=Tryz.underlying9
 a9:=Tryz.isAgg9
 z9:=Tryz.sizeOf9
 v9:=Tryz.zeroValue9
 t21:=Tryz.underlying21
 a21:=Tryz.isAgg21
 z21:=Tryz.sizeOf21
 v21:=Tryz.zeroValue21
 t46:=Tryz.underlying181
 a46:=Tryz.isAgg181
 z46:=Tryz.sizeOf181
 v46:=Tryz.zeroValue181
 t105:=Tryz.underlying220
 a105:=Tryz.isAgg220
 z105:=Tryz.sizeOf220
 v105:=Tryz.zeroValue220
 t116:=Tryz.underlying208
 a116:=Tryz.isAgg208
 z116:=Tryz.sizeOf208
 t117:=Tryz.underlying209
 a117:=Tryz.isAgg209
 z117:=Tryz.sizeOf209
 v117:=Tryz.zeroValue209
 t119:=Tryz.underlying246
 a119:=Tryz.isAgg246
 z119:=Tryz.sizeOf246
 t124:=Tryz.underlying212
 a124:=Tryz.isAgg212
 z124:=Tryz.sizeOf212
 v124:=Tryz.zeroValue212
 t138:=Tryz.underlying248
 a138:=Tryz.isAgg248
 z138:=Tryz.sizeOf248
 v138:=Tryz.zeroValue248
 t139:=Tryz.underlying249
 a139:=Tryz.isAgg249
 z139:=Tryz.sizeOf249
 v139:=Tryz.zeroValue249
 g3:=by kernel_rfl
 g4:=by kernel_rfl }
def Tryz.lays133_ren:Go.Shelf.Ren:=⟨fun | 133=>199 | 128=>222 | n=>n,fun | 51=>173 | 3=>3 | 4=>4 | 46=>181 | 5=>5 | 9=>9 | n=>n,fun | n=>n⟩
theorem Tryz.lays133:Go.Proofs.Lays.n133 Tryz.prog Tryz.lays133_ren:={
 mixed:=by kernel_rfl
 f128:=Tryz.func222.trans (congrArg some (by kernel_rfl))
 f133:=Tryz.func199.trans (congrArg some (by kernel_rfl))
 t3:=Tryz.underlying3
 a3:=Tryz.isAgg3
 z3:=Tryz.sizeOf3
 v3:=Tryz.zeroValue3
 t4:=Tryz.underlying4
 a4:=Tryz.isAgg4
 z4:=Tryz.sizeOf4
 v4:=Tryz.zeroValue4
 t5:=Tryz.underlying5
 a5:=Tryz.isAgg5
 z5:=Tryz.sizeOf5
 v5:=Tryz.zeroValue5
 t9:=Tryz.underlying9
 a9:=Tryz.isAgg9
 z9:=Tryz.sizeOf9
 v9:=Tryz.zeroValue9
 t46:=Tryz.underlying181
 a46:=Tryz.isAgg181
 z46:=Tryz.sizeOf181
 v46:=Tryz.zeroValue181
 t51:=Tryz.underlying173
 a51:=Tryz.isAgg173
 z51:=Tryz.sizeOf173
 v51:=Tryz.zeroValue173 }
theorem Tryz.bits_LeadingZeros32 (x:Int) (w:World) (h0:0≤x) (h1:x≤4294967295) :
 Calls Tryz.prog 199 #[.int .u32 x] w fun e w'=>e=.returned (.int .i64 (32 - (Lib.bitLen x.toNat:Int)))∧w'=w:=Any.bits_LeadingZeros32 Tryz.lays133 x w h0 h1
def Tryz.lays137_ren:Go.Shelf.Ren:=⟨fun | 137=>146 | 217=>174 | 266=>204 | n=>n,fun | 9=>9 | 5=>5 | 3=>3 | n=>n,fun | n=>n⟩
theorem Tryz.lays137:Go.Proofs.Lays.n137 Tryz.prog Tryz.lays137_ren:={
 mixed:=by kernel_rfl
 f137:=Tryz.func146.trans (congrArg some (by kernel_rfl))
 f217:=Tryz.func174.trans (congrArg some (by kernel_rfl))
 f266:=Tryz.func204.trans (congrArg some (by kernel_rfl))
 t3:=Tryz.underlying3
 a3:=Tryz.isAgg3
 z3:=Tryz.sizeOf3
 v3:=Tryz.zeroValue3
 t5:=Tryz.underlying5
 a5:=Tryz.isAgg5
 z5:=Tryz.sizeOf5
 v5:=Tryz.zeroValue5
 t9:=Tryz.underlying9
 a9:=Tryz.isAgg9
 z9:=Tryz.sizeOf9
 v9:=Tryz.zeroValue9 }
open Go.RowKit in
theorem Tryz.strings_IndexByte (s:ByteArray) (c:Int) (w:World) :
 Calls Tryz.prog 146 #[.string s,.int .u8 c] w fun e w'=>e=.returned (.int .i64 (Lib.indexByte s.data.toList c.toNat.toUInt8))∧w'=w:=Any.strings_IndexByte Tryz.lays137 s c w
def Tryz.lays103_ren:Go.Shelf.Ren:=⟨fun | 103=>110 | 210=>150 | 206=>175 | n=>n,fun | 9=>9 | 4=>4 | 24=>152 | 3=>3 | n=>n,fun | n=>n⟩
theorem Tryz.lays103:Go.Proofs.Lays.n103 Tryz.prog Tryz.lays103_ren:={
 mixed:=by kernel_rfl
 f103:=Tryz.func110.trans (congrArg some (by kernel_rfl))
 f206:=Tryz.func175.trans (congrArg some (by kernel_rfl))
 f210:=Tryz.func150.trans (congrArg some (by kernel_rfl))
 t3:=Tryz.underlying3
 a3:=Tryz.isAgg3
 z3:=Tryz.sizeOf3
 v3:=Tryz.zeroValue3
 t4:=Tryz.underlying4
 a4:=Tryz.isAgg4
 z4:=Tryz.sizeOf4
 v4:=Tryz.zeroValue4
 t9:=Tryz.underlying9
 a9:=Tryz.isAgg9
 z9:=Tryz.sizeOf9
 v9:=Tryz.zeroValue9
 t24:=Tryz.underlying152
 a24:=Tryz.isAgg152
 z24:=Tryz.sizeOf152
 v24:=Tryz.zeroValue152 }
open Go.RowKit in
theorem Tryz.strings_CutPrefix (s p:ByteArray) (w:World) :
 Calls Tryz.prog 110 #[.string s,.string p] w fun e w'=>e=.returned (.tuple #[.string ⟨(Lib.trimPrefix s.data.toList p.data.toList).toArray⟩,.bool (Lib.hasPrefix s.data.toList p.data.toList)])∧w'=w:=Any.strings_CutPrefix Tryz.lays103 s p w
def Tryz.lays172_ren:Go.Shelf.Ren:=⟨fun | 172=>155 | 244=>187 | 245=>188 | 247=>212 | 279=>213 | 280=>214 | 281=>215 | 282=>216 | 287=>227 | 316=>228 | 171=>124 | 205=>229 | 321=>236 | 322=>237 | 243=>158 | 246=>189 | 283=>217 | 284=>218 | 285=>219 | 286=>220 | 129=>231 | 317=>230 | 318=>232 | 319=>233 | 320=>234 | 337=>238 | 338=>239 | n=>n,fun | 9=>9 | 3=>3 | 75=>34 | 76=>105 | 4=>4 | 5=>5 | 167=>223 | 37=>102 | 0=>0 | 85=>224 | 2=>2 | 168=>226 | 53=>179 | 175=>236 | 46=>181 | 210=>239 | 127=>150 | 145=>254 | 143=>252 | 21=>21 | 171=>229 | 173=>232 | 212=>242 | 51=>173 | 20=>20 | 213=>243 | 232=>255 | 233=>256 | 80=>112 | n=>n,fun | 15=>1 | 16=>2 | 17=>3 | 18=>6 | 19=>7 | n=>n⟩
theorem Tryz.lays172:Go.Proofs.Lays.n172 Tryz.prog Tryz.lays172_ren:={
 mixed:=by kernel_rfl
 f129:=Tryz.func231.trans (congrArg some (by kernel_rfl))
 f171:=Tryz.func124.trans (congrArg some (by kernel_rfl))
 f172:=Tryz.func155.trans (congrArg some (by kernel_rfl))
 f205:=Tryz.func229.trans (congrArg some (by kernel_rfl))
 f243:=Tryz.func158.trans (congrArg some (by kernel_rfl))
 f244:=Tryz.func187.trans (congrArg some (by kernel_rfl))
 f245:=Tryz.func188.trans (congrArg some (by kernel_rfl))
 f246:=Tryz.func189.trans (congrArg some (by kernel_rfl))
 f247:=Tryz.func212.trans (congrArg some (by kernel_rfl))
 f279:=Tryz.func213.trans (congrArg some (by kernel_rfl))
 f280:=Tryz.func214.trans (congrArg some (by kernel_rfl))
 f281:=Tryz.func215.trans (congrArg some (by kernel_rfl))
 f282:=Tryz.func216.trans (congrArg some (by kernel_rfl))
 f283:=Tryz.func217.trans (congrArg some (by kernel_rfl))
 f284:=Tryz.func218.trans (congrArg some (by kernel_rfl))
 f285:=Tryz.func219.trans (congrArg some (by kernel_rfl))
 f286:=Tryz.func220.trans (congrArg some (by kernel_rfl))
 f287:=Tryz.func227.trans (congrArg some (by kernel_rfl))
 f316:=Tryz.func228.trans (congrArg some (by kernel_rfl))
 f317:=Tryz.func230.trans (congrArg some (by kernel_rfl))
 f318:=Tryz.func232.trans (congrArg some (by kernel_rfl))
 f319:=Tryz.func233.trans (congrArg some (by kernel_rfl))
 f320:=Tryz.func234.trans (congrArg some (by kernel_rfl))
 f321:=Tryz.func236.trans (congrArg some (by kernel_rfl))
 f322:=Tryz.func237.trans (congrArg some (by kernel_rfl))
 f337:=Tryz.func238.trans (congrArg some (by kernel_rfl))
 f338:=Tryz.func239.trans (congrArg some (by kernel_rfl))
 t0:=Tryz.underlying0
 a0:=Tryz.isAgg0
 z0:=Tryz.sizeOf0
 v0:=Tryz.zeroValue0
 t2:=Tryz.underlying2
 a2:=Tryz.isAgg2
 z2:=Tryz.sizeOf2
 v2:=Tryz.zeroValue2
 t3:=Tryz.underlying3
 a3:=Tryz.isAgg3
 z3:=Tryz.sizeOf3
 v3:=Tryz.zeroValue3
 t4:=Tryz.underlying4
 a4:=Tryz.isAgg4
 z4:=Tryz.sizeOf4
 v4:=Tryz.zeroValue4
 t5:=Tryz.underlying5
 a5:=Tryz.isAgg5
 z5:=Tryz.sizeOf5
 v5:=Tryz.zeroValue5
 t9:=Tryz.underlying9
 a9:=Tryz.isAgg9
 z9:=Tryz.sizeOf9
 v9:=Tryz.zeroValue9
 t20:=Tryz.underlying20
 a20:=Tryz.isAgg20
 z20:=Tryz.sizeOf20
 v20:=Tryz.zeroValue20
 t21:=Tryz.underlying21
 a21:=Tryz.isAgg21
 z21:=Tryz.sizeOf21
 v21:=Tryz.zeroValue21
 t37:=Tryz.underlying102
 a37:=Tryz.isAgg102
 z37:=Tryz.sizeOf102
 v37:=Tryz.zeroValue102
 t46:=Tryz.underlying181
 a46:=Tryz.isAgg181
 z46:=Tryz.sizeOf181
 v46:=Tryz.zeroValue181
 t51:=Tryz.underlying173
 a51:=Tryz.isAgg173
 z51:=Tryz.sizeOf173
 v51:=Tryz.zeroValue173
 t53:=Tryz.underlying179
 a53:=Tryz.isAgg179
 z53:=Tryz.sizeOf179
 v53:=Tryz.zeroValue179
 t75:=Tryz.underlying34
 a75:=Tryz.isAgg34
 z75:=Tryz.sizeOf34
 v75:=Tryz.zeroValue34
 t76:=Tryz.underlying105
 a76:=Tryz.isAgg105
 z76:=Tryz.sizeOf105
 v76:=Tryz.zeroValue105
 t85:=Tryz.underlying224
 a85:=Tryz.isAgg224
 z85:=Tryz.sizeOf224
 v85:=Tryz.zeroValue224
 t127:=Tryz.underlying150
 a127:=Tryz.isAgg150
 z127:=Tryz.sizeOf150
 v127:=Tryz.zeroValue150
 t143:=Tryz.underlying252
 a143:=Tryz.isAgg252
 z143:=Tryz.sizeOf252
 v143:=Tryz.zeroValue252
 t145:=Tryz.underlying254
 a145:=Tryz.isAgg254
 z145:=Tryz.sizeOf254
 v145:=Tryz.zeroValue254
 t167:=Tryz.underlying223
 a167:=Tryz.isAgg223
 z167:=Tryz.sizeOf223
 v167:=Tryz.zeroValue223
 t168:=Tryz.underlying226
 a168:=Tryz.isAgg226
 z168:=Tryz.sizeOf226
 v168:=Tryz.zeroValue226
 t171:=Tryz.underlying229
 a171:=Tryz.isAgg229
 z171:=Tryz.sizeOf229
 v171:=Tryz.zeroValue229
 t173:=Tryz.underlying232
 a173:=Tryz.isAgg232
 z173:=Tryz.sizeOf232
 v173:=Tryz.zeroValue232
 t175:=Tryz.underlying236
 a175:=Tryz.isAgg236
 z175:=Tryz.sizeOf236
 v175:=Tryz.zeroValue236
 t210:=Tryz.underlying239
 a210:=Tryz.isAgg239
 z210:=Tryz.sizeOf239
 v210:=Tryz.zeroValue239
 t212:=Tryz.underlying242
 a212:=Tryz.isAgg242
 z212:=Tryz.sizeOf242
 v212:=Tryz.zeroValue242
 t213:=Tryz.underlying243
 a213:=Tryz.isAgg243
 z213:=Tryz.sizeOf243
 t232:=Tryz.underlying255
 a232:=Tryz.isAgg255
 z232:=Tryz.sizeOf255
 v232:=Tryz.zeroValue255
 t233:=Tryz.underlying256
 a233:=Tryz.isAgg256
 z233:=Tryz.sizeOf256
 v233:=Tryz.zeroValue256
 g15:=by kernel_rfl
 g16:=by kernel_rfl
 g17:=by kernel_rfl
 g18:=by kernel_rfl
 g19:=by kernel_rfl }
open Go.RowKit in
theorem Tryz.strconv_Atoi (s:ByteArray) (n:Int) (hl:s.size≤18) (h:Lib.atoi s.data.toList=some n) (w:World) :
 Calls Tryz.prog 155 #[.string s] w fun e w'=>e=.returned (.tuple #[.int .i64 n,.nilIface])∧∃ t,w'=Lib.bytesWorld w 5 t:=Any.strconv_Atoi Tryz.lays172 s n hl h w
def Tryz.laysM171_ren:Go.Shelf.Ren:=⟨fun | 171=>124 | 243=>158 | 246=>189 | 283=>217 | 284=>218 | 285=>219 | 286=>220 | 129=>231 | 317=>230 | 318=>232 | 319=>233 | 320=>234 | 337=>238 | 338=>239 | n=>n,fun | 3=>3 | 9=>9 | 2=>2 | 4=>4 | 171=>229 | 0=>0 | 53=>179 | 37=>102 | 5=>5 | 173=>232 | 212=>242 | 51=>173 | 20=>20 | 213=>243 | 46=>181 | 232=>255 | 233=>256 | n=>n,fun | 17=>3 | 18=>6 | 19=>7 | n=>n⟩
theorem Tryz.laysM171:Go.Proofs.LaysM.n171 Tryz.prog Tryz.laysM171_ren:={
 mixed:=by kernel_rfl
 f129:=Tryz.func231.trans (congrArg some (by kernel_rfl))
 f171:=Tryz.func124.trans (congrArg some (by kernel_rfl))
 f243:=Tryz.func158.trans (congrArg some (by kernel_rfl))
 f246:=Tryz.func189.trans (congrArg some (by kernel_rfl))
 f283:=Tryz.func217.trans (congrArg some (by kernel_rfl))
 f284:=Tryz.func218.trans (congrArg some (by kernel_rfl))
 f285:=Tryz.func219.trans (congrArg some (by kernel_rfl))
 f286:=Tryz.func220.trans (congrArg some (by kernel_rfl))
 f317:=Tryz.func230.trans (congrArg some (by kernel_rfl))
 f318:=Tryz.func232.trans (congrArg some (by kernel_rfl))
 f319:=Tryz.func233.trans (congrArg some (by kernel_rfl))
 f320:=Tryz.func234.trans (congrArg some (by kernel_rfl))
 f337:=Tryz.func238.trans (congrArg some (by kernel_rfl))
 f338:=Tryz.func239.trans (congrArg some (by kernel_rfl))
 t0:=Tryz.underlying0
 a0:=Tryz.isAgg0
 z0:=Tryz.sizeOf0
 v0:=Tryz.zeroValue0
 t2:=Tryz.underlying2
 a2:=Tryz.isAgg2
 z2:=Tryz.sizeOf2
 v2:=Tryz.zeroValue2
 t3:=Tryz.underlying3
 a3:=Tryz.isAgg3
 z3:=Tryz.sizeOf3
 v3:=Tryz.zeroValue3
 t4:=Tryz.underlying4
 a4:=Tryz.isAgg4
 z4:=Tryz.sizeOf4
 v4:=Tryz.zeroValue4
 t5:=Tryz.underlying5
 a5:=Tryz.isAgg5
 z5:=Tryz.sizeOf5
 v5:=Tryz.zeroValue5
 t9:=Tryz.underlying9
 a9:=Tryz.isAgg9
 z9:=Tryz.sizeOf9
 v9:=Tryz.zeroValue9
 t20:=Tryz.underlying20
 a20:=Tryz.isAgg20
 z20:=Tryz.sizeOf20
 v20:=Tryz.zeroValue20
 t37:=Tryz.underlying102
 a37:=Tryz.isAgg102
 z37:=Tryz.sizeOf102
 v37:=Tryz.zeroValue102
 t46:=Tryz.underlying181
 a46:=Tryz.isAgg181
 z46:=Tryz.sizeOf181
 v46:=Tryz.zeroValue181
 t51:=Tryz.underlying173
 a51:=Tryz.isAgg173
 z51:=Tryz.sizeOf173
 v51:=Tryz.zeroValue173
 t53:=Tryz.underlying179
 a53:=Tryz.isAgg179
 z53:=Tryz.sizeOf179
 v53:=Tryz.zeroValue179
 t171:=Tryz.underlying229
 a171:=Tryz.isAgg229
 z171:=Tryz.sizeOf229
 v171:=Tryz.zeroValue229
 t173:=Tryz.underlying232
 a173:=Tryz.isAgg232
 z173:=Tryz.sizeOf232
 v173:=Tryz.zeroValue232
 t212:=Tryz.underlying242
 a212:=Tryz.isAgg242
 z212:=Tryz.sizeOf242
 v212:=Tryz.zeroValue242
 t213:=Tryz.underlying243
 a213:=Tryz.isAgg243
 z213:=Tryz.sizeOf243
 t232:=Tryz.underlying255
 a232:=Tryz.isAgg255
 z232:=Tryz.sizeOf255
 v232:=Tryz.zeroValue255
 t233:=Tryz.underlying256
 a233:=Tryz.isAgg256
 z233:=Tryz.sizeOf256
 v233:=Tryz.zeroValue256
 g17:=by kernel_rfl
 g18:=by kernel_rfl
 g19:=by kernel_rfl
 i0:=by kernel_rfl
 i2:=by kernel_rfl
 i3:=by kernel_rfl
 i4:=by kernel_rfl
 i5:=by kernel_rfl
 i9:=by kernel_rfl
 i20:=by kernel_rfl
 i37:=by kernel_rfl
 i46:=by kernel_rfl
 i51:=by kernel_rfl
 i53:=by kernel_rfl
 i171:=by kernel_rfl
 i173:=by kernel_rfl
 i212:=by kernel_rfl
 i232:=by kernel_rfl
 i233:=by kernel_rfl
 m17:=by kernel_rfl
 m18:=by kernel_rfl
 m19:=by kernel_rfl }
open Go.RowKit Go.Sort Go.Lib in
theorem Tryz.strconv_Itoa (n : Int) (h0 : -9223372036854775808 ≤ n) (h1 : n ≤ 9223372036854775807) (w : World) (htab : Lib.TabIs Tryz.prog w "internal/strconv.uint64pow10" .u64 Lib.pow10Tab) :
 Calls Tryz.prog 124 #[.int .i64 n] w fun e w'=>e=.returned (.string ⟨(Lib.itoa n).toArray⟩)∧∃ k os,w'=grow (w.drewN k) os:=Any.strconv_Itoa Tryz.laysM171 n h0 h1 w htab
def Tryz.lays145_ren:Go.Shelf.Ren:=⟨fun | 145=>111 | 220=>151 | 219=>176 | 217=>174 | 225=>205 | 224=>206 | 267=>207 | 266=>204 | 314=>223 | n=>n,fun | 9=>9 | 4=>4 | 59=>160 | 3=>3 | 5=>5 | 46=>181 | 146=>202 | 51=>173 | n=>n,fun | 1=>0 | n=>n⟩
theorem Tryz.lays145:Go.Proofs.Lays.n145 Tryz.prog Tryz.lays145_ren:={
 mixed:=by kernel_rfl
 f145:=Tryz.func111.trans (congrArg some (by kernel_rfl))
 f217:=Tryz.func174.trans (congrArg some (by kernel_rfl))
 f219:=Tryz.func176.trans (congrArg some (by kernel_rfl))
 f220:=Tryz.func151.trans (congrArg some (by kernel_rfl))
 f224:=Tryz.func206.trans (congrArg some (by kernel_rfl))
 f225:=Tryz.func205.trans (congrArg some (by kernel_rfl))
 f266:=Tryz.func204.trans (congrArg some (by kernel_rfl))
 f267:=Tryz.func207.trans (congrArg some (by kernel_rfl))
 f314:=Tryz.func223.trans (congrArg some (by kernel_rfl))
 t3:=Tryz.underlying3
 a3:=Tryz.isAgg3
 z3:=Tryz.sizeOf3
 v3:=Tryz.zeroValue3
 t4:=Tryz.underlying4
 a4:=Tryz.isAgg4
 z4:=Tryz.sizeOf4
 v4:=Tryz.zeroValue4
 t5:=Tryz.underlying5
 a5:=Tryz.isAgg5
 z5:=Tryz.sizeOf5
 v5:=Tryz.zeroValue5
 t9:=Tryz.underlying9
 a9:=Tryz.isAgg9
 z9:=Tryz.sizeOf9
 v9:=Tryz.zeroValue9
 t46:=Tryz.underlying181
 a46:=Tryz.isAgg181
 z46:=Tryz.sizeOf181
 v46:=Tryz.zeroValue181
 t51:=Tryz.underlying173
 a51:=Tryz.isAgg173
 z51:=Tryz.sizeOf173
 v51:=Tryz.zeroValue173
 t59:=Tryz.underlying160
 a59:=Tryz.isAgg160
 z59:=Tryz.sizeOf160
 v59:=Tryz.zeroValue160
 t146:=Tryz.underlying202
 a146:=Tryz.isAgg202
 z146:=Tryz.sizeOf202
 v146:=Tryz.zeroValue202
 g1:=by kernel_rfl }
open Go.RowKit Go.Lib in
theorem Tryz.strings_Cut (s sep:ByteArray) (m:Int) (w:World) (hs:s.size < 4294967281) (hm:w.cell? ⟨0,0,none⟩=some (.int .i64 m)) :
 Calls Tryz.prog 111 #[.string s,.string sep] w fun e w'=>e=.returned (.tuple #[.string ⟨(Lib.cut s.data.toList sep.data.toList).1.toArray⟩,.string ⟨(Lib.cut s.data.toList sep.data.toList).2.1.toArray⟩,.bool (Lib.cut s.data.toList sep.data.toList).2.2])∧∃ n,w'=w.drewN n:=Any.strings_Cut Tryz.lays145 s sep m w hs hm
def Tryz.lays99_ren:Go.Shelf.Ren:=⟨fun | 99=>148 | 206=>175 | n=>n,fun | 9=>9 | 4=>4 | 3=>3 | n=>n,fun | n=>n⟩
theorem Tryz.lays99:Go.Proofs.Lays.n99 Tryz.prog Tryz.lays99_ren:={
 mixed:=by kernel_rfl
 f99:=Tryz.func148.trans (congrArg some (by kernel_rfl))
 f206:=Tryz.func175.trans (congrArg some (by kernel_rfl))
 t3:=Tryz.underlying3
 a3:=Tryz.isAgg3
 z3:=Tryz.sizeOf3
 v3:=Tryz.zeroValue3
 t4:=Tryz.underlying4
 a4:=Tryz.isAgg4
 z4:=Tryz.sizeOf4
 v4:=Tryz.zeroValue4
 t9:=Tryz.underlying9
 a9:=Tryz.isAgg9
 z9:=Tryz.sizeOf9
 v9:=Tryz.zeroValue9 }
open Go.RowKit Go.Lib in
theorem Tryz.strings_HasPrefix (s p:ByteArray) (w:World) :
 Calls Tryz.prog 148 #[.string s,.string p] w fun e w'=>e=.returned (.bool (Lib.hasPrefix s.data.toList p.data.toList))∧w'=w:=Any.strings_HasPrefix Tryz.lays99 s p w
def Tryz.lays101_ren:Go.Shelf.Ren:=⟨fun | 101=>153 | 208=>179 | 206=>175 | n=>n,fun | 9=>9 | 4=>4 | 3=>3 | n=>n,fun | n=>n⟩
theorem Tryz.lays101:Go.Proofs.Lays.n101 Tryz.prog Tryz.lays101_ren:={
 mixed:=by kernel_rfl
 f101:=Tryz.func153.trans (congrArg some (by kernel_rfl))
 f206:=Tryz.func175.trans (congrArg some (by kernel_rfl))
 f208:=Tryz.func179.trans (congrArg some (by kernel_rfl))
 t3:=Tryz.underlying3
 a3:=Tryz.isAgg3
 z3:=Tryz.sizeOf3
 v3:=Tryz.zeroValue3
 t4:=Tryz.underlying4
 a4:=Tryz.isAgg4
 z4:=Tryz.sizeOf4
 v4:=Tryz.zeroValue4
 t9:=Tryz.underlying9
 a9:=Tryz.isAgg9
 z9:=Tryz.sizeOf9
 v9:=Tryz.zeroValue9 }
open Go.RowKit Go.Lib in
theorem Tryz.strings_TrimPrefix (s p:ByteArray) (w:World) :
 Calls Tryz.prog 153 #[.string s,.string p] w fun e w'=>e=.returned (.string ⟨(Lib.trimPrefix s.data.toList p.data.toList).toArray⟩)∧w'=w:=Any.strings_TrimPrefix Tryz.lays101 s p w
def Tryz.lays105_ren:Go.Shelf.Ren:=⟨fun | 105=>112 | 212=>152 | 99=>148 | 165=>102 | 166=>61 | 170=>65 | 169=>67 | 263=>177 | 264=>178 | 206=>175 | 240=>101 | 241=>145 | 276=>144 | 277=>173 | n=>n,fun | 9=>9 | 3=>3 | 4=>4 | 20=>20 | 0=>0 | 46=>181 | 109=>192 | 5=>5 | 72=>104 | 76=>105 | 51=>173 | 146=>202 | 53=>179 | 148=>204 | 70=>101 | 37=>102 | 75=>34 | 127=>150 | 164=>187 | 80=>112 | n=>n,fun | n=>n⟩
theorem Tryz.lays105:Go.Proofs.Lays.n105 Tryz.prog Tryz.lays105_ren:={
 mixed:=by kernel_rfl
 f99:=Tryz.func148.trans (congrArg some (by kernel_rfl))
 f105:=Tryz.func112.trans (congrArg some (by kernel_rfl))
 f165:=Tryz.func102.trans (congrArg some (by kernel_rfl))
 f166:=Tryz.func61.trans (congrArg some (by kernel_rfl))
 f169:=Tryz.func67.trans (congrArg some (by kernel_rfl))
 f170:=Tryz.func65.trans (congrArg some (by kernel_rfl))
 f206:=Tryz.func175.trans (congrArg some (by kernel_rfl))
 f212:=Tryz.func152.trans (congrArg some (by kernel_rfl))
 f240:=Tryz.func101.trans (congrArg some (by kernel_rfl))
 f241:=Tryz.func145.trans (congrArg some (by kernel_rfl))
 f263:=Tryz.func177.trans (congrArg some (by kernel_rfl))
 f264:=Tryz.func178.trans (congrArg some (by kernel_rfl))
 f276:=Tryz.func144.trans (congrArg some (by kernel_rfl))
 f277:=Tryz.func173.trans (congrArg some (by kernel_rfl))
 t0:=Tryz.underlying0
 a0:=Tryz.isAgg0
 z0:=Tryz.sizeOf0
 v0:=Tryz.zeroValue0
 t3:=Tryz.underlying3
 a3:=Tryz.isAgg3
 z3:=Tryz.sizeOf3
 v3:=Tryz.zeroValue3
 t4:=Tryz.underlying4
 a4:=Tryz.isAgg4
 z4:=Tryz.sizeOf4
 v4:=Tryz.zeroValue4
 t5:=Tryz.underlying5
 a5:=Tryz.isAgg5
 z5:=Tryz.sizeOf5
 v5:=Tryz.zeroValue5
 t9:=Tryz.underlying9
 a9:=Tryz.isAgg9
 z9:=Tryz.sizeOf9
 v9:=Tryz.zeroValue9
 t20:=Tryz.underlying20
 a20:=Tryz.isAgg20
 z20:=Tryz.sizeOf20
 v20:=Tryz.zeroValue20
 t37:=Tryz.underlying102
 a37:=Tryz.isAgg102
 z37:=Tryz.sizeOf102
 v37:=Tryz.zeroValue102
 t46:=Tryz.underlying181
 a46:=Tryz.isAgg181
 z46:=Tryz.sizeOf181
 v46:=Tryz.zeroValue181
 t51:=Tryz.underlying173
 a51:=Tryz.isAgg173
 z51:=Tryz.sizeOf173
 v51:=Tryz.zeroValue173
 t53:=Tryz.underlying179
 a53:=Tryz.isAgg179
 z53:=Tryz.sizeOf179
 v53:=Tryz.zeroValue179
 t70:=Tryz.underlying101
 a70:=Tryz.isAgg101
 z70:=Tryz.sizeOf101
 v70:=Tryz.zeroValue101
 t72:=Tryz.underlying104
 a72:=Tryz.isAgg104
 z72:=Tryz.sizeOf104
 v72:=Tryz.zeroValue104
 t75:=Tryz.underlying34
 a75:=Tryz.isAgg34
 z75:=Tryz.sizeOf34
 v75:=Tryz.zeroValue34
 t76:=Tryz.underlying105
 a76:=Tryz.isAgg105
 z76:=Tryz.sizeOf105
 v76:=Tryz.zeroValue105
 t109:=Tryz.underlying192
 a109:=Tryz.isAgg192
 z109:=Tryz.sizeOf192
 v109:=Tryz.zeroValue192
 t127:=Tryz.underlying150
 a127:=Tryz.isAgg150
 z127:=Tryz.sizeOf150
 v127:=Tryz.zeroValue150
 t146:=Tryz.underlying202
 a146:=Tryz.isAgg202
 z146:=Tryz.sizeOf202
 v146:=Tryz.zeroValue202
 t148:=Tryz.underlying204
 a148:=Tryz.isAgg204
 z148:=Tryz.sizeOf204
 v148:=Tryz.zeroValue204
 t164:=Tryz.underlying187
 a164:=Tryz.isAgg187
 z164:=Tryz.sizeOf187
 v164:=Tryz.zeroValue187 }
theorem Tryz.Builder_Extra_105:Builder.Extra Tryz.prog Tryz.lays105_ren:={
 sizeBuilder:=by kernel_rfl
 liesBuilder:=by kernel_rfl
 t5:=Tryz.underlying5
 a5:=Tryz.isAgg5
 z5:=Tryz.sizeOf5
 v5:=Tryz.zeroValue5
 infoByte:=by kernel_rfl
 cellsByte:=by kernel_rfl
 sizeByte:=by kernel_rfl
 neB5:=by decide }
open Go.RowKit Go.Lib in
theorem Tryz.strings_Repeat (s:ByteArray) (c:Nat) (w:World) (hc:c≤9223372036854775807) (hlen:s.size * c≤140737488355328) :
 Calls Tryz.prog 112 #[.string s,.int .i64 c] w fun e w'=>e=.returned (.string ⟨(Lib.repeatL s.data.toList c).toArray⟩)∧Below w.heap.size w w':=Any.strings_Repeat Tryz.lays105 Tryz.Builder_Extra_105 s c w hc hlen
end Go.Proofs

/- Walks: the long division, first part: where no division is made, and by one word. -/
namespace Go.Proofs.YtndhgcfajlalhaaGreatDoor
open Go Go.RowKit Bn
attribute [local go_sem ↓] Go.wp_at_zero Go.wp_at_succ

theorem nM (w:World) (z:Int) (x:Nat) (hz:z=x) (hx:x < 4294967296):Wd (w.alloc (.cells #[.int .u32 z] 173)) (some ⟨w.heap.size,0,none⟩) 1 1 [x]:=by
 subst hz;exact (Blk.new w 173 (cellsOf [x])).wdN (by intro y hy;simp at hy;omega) rfl
def pE (w:World) (a b:Nat) (e:Ending) (w':World):Prop:=∃ A1 n1 c1 A2 n2 c2,e=.returned (.tuple #[.slice A1 n1 c1,.slice A2 n2 c2])∧Wd w' A1 n1 c1 (am (a / b))∧Wd w' A2 n2 c2 (am (a % b))∧Below w.heap.size w w'
theorem rS (w:World) (A n c l) (wa:Wd w A n c l) (hn:n≤1099511627776) (A' n' c' l') (wb:Wd w A' n' c' l') (hn':n'≤1099511627776) (hc:aO l) (hc':aO l') (hlt:val l < val l') :
 Calls Tryz.prog 171 #[.slice A n c,.slice A' n' c'] w (pE w (val l) (val l')):=by
 have h1:=dI w A n c l wa hn A' n' c' l' wb hn' hc hc';rw [show bq (val l) (val l')=-1 by unfold bq;rw [if_pos hlt]] at h1;have H1:=Qh h1;have HD:=Qh (And.intro (Nat.div_eq_of_lt hlt) (Nat.mod_eq_of_lt hlt));clear h1 hlt;go_in
 go_wp2_with (first
  | (go_at_call 119;refine (H1.out).mono ?_;rintro e w1 ⟨rfl,hb1⟩)
  | (go_at_call 156;(refine (eH _ A n c l ?_ (by omega)).mono ?_);exact wa.keep ((Kp.refl _).below hb1);rintro e w2 ⟨A2,n2,c2,rfl,h2,hb2⟩))
 go_ret2;refine ⟨none,0,0,A2,n2,c2,rfl,?_,?_,hb1.trans (hb2.mono hb1.size)⟩
 ·rw [HD.out.1,av];exact Wd.nil_ _
 rw [HD.out.2];exact h2
theorem pF (w:World) (A n c l) (wa:Wd w A n c l) (hn:n≤1099511627776) (A' n' c' l') (wb:Wd w A' n' c' l') (hc:aO l) (hc':aO l') (hge:val l'≤val l) (hone:n'=1) :
 Calls Tryz.prog 171 #[.slice A n c,.slice A' n' c'] w (pE w (val l) (val l')):=by
 subst hone;have hlen:=wb.2.1
 obtain ⟨y,rfl⟩:∃ y,l'=[y]:=by
  match l',hlen with
  | [y],_=>exact ⟨y,rfl⟩
 have hy1:y < 4294967296:=hc'.1 y (by simp);have hy0:0 < y:=by have:=hc'.2;simp at this;omega
 have hv:val [y]=y:=by simp [val]
 have h1:=dI w A n c l wa hn A' 1 c' [y] wb (by omega) hc hc';obtain ⟨c0,hc0,hc00⟩:∃ c0,bq (val l) (val [y])=c0∧0≤c0:=⟨_,rfl,by unfold bq;rw [if_neg (by omega)];split <;> omega⟩;rw [hc0] at h1;have H1:=Qh h1;have HV:=Qh hv;obtain ⟨g',o',rfl,hgl,hcell⟩:=wb.at2 (by omega);have hcy:=hcell 0 (by omega);simp only [wd,List.getD_cons_zero,Nat.add_zero] at hcy;clear h1 hc0 hcell hv hlen hge;go_in
 go_wp2_with (first
  | (go_at_call 119;refine (H1.out).mono ?_;rintro e w1 ⟨rfl,hb1⟩;have hcy1:=(hb1.cell (p:=⟨g',o',none⟩) hgl).trans hcy)
  | (go_at_call 123;(refine (qK _ A n c l ?_ hn y hy0 hy1).mono ?_);exact wa.keep ((Kp.refl _).below hb1);rintro e w2 ⟨A2,n2,c2,rfl,h2,hb2⟩)
  | (go_at_call 156;(refine (eH _ _ 1 1 [val l % y] ?_ (by omega)).mono ?_);exact nM _ _ _ (by simp) (Nat.lt_trans (Nat.mod_lt _ hy0) hy1);rintro e w3 ⟨A3,n3,c3,rfl,h3,hb3⟩))
 go_ret2;rw [HV.out];have e1:val [val l % y]=val l % y:=by simp [val]
 rw [e1] at h3;exact ⟨_,_,_,_,_,_,rfl,h2.keep (((Kp.refl _).alloc _).below hb3),h3,((hb1.trans (hb2.mono hb1.size)).alloc (Nat.le_trans hb1.size hb2.size) _).trans (hb3.mono (Nat.le_trans (Nat.le_trans hb1.size hb2.size) (by simp)))⟩

theorem lr (x:Nat) (h0:x≠0) (h1:x < 2 ^ 64):∃ k,Lib.bitLen x=k+1∧2 ^ k≤x∧x < 2 ^ (k+1):=by
 induction x using Nat.strongRecOn with
 | ind x ih =>
  have hb:=Lib.bitLen_half x h0 h1;by_cases h2:x / 2=0
  ·refine ⟨0,?_,by omega,by omega⟩
   rw [hb,h2];rfl
  obtain ⟨k,hk,hk1,hk2⟩:=ih (x / 2) (by omega) h2 (by omega);refine ⟨k+1,by rw [hb,hk];omega,?_,?_⟩
  ·rw [Nat.pow_succ];omega
  rw [Nat.pow_succ];omega
theorem tL {x:Nat}(h0:x≠0) (h1:x < 4294967296):∃ m:Nat,m < 32∧(32 - (Lib.bitLen x:Int))=(m:Int)∧2147483648≤x * 2 ^ m∧(x+1) * 2 ^ m≤4294967296:=by
 obtain ⟨k,hk,hk1,hk2⟩:=lr x h0 (by omega)
 have hk3:k < 32:=by
  rcases Nat.lt_or_ge k 32 with h | h
  ·exact h
  have:2 ^ 32≤2 ^ k:=Nat.pow_le_pow_right (by omega) h;omega
 obtain ⟨e1,e2⟩:=pD (x:=x) (k:=k) (m:=31 - k) (by omega) hk1 hk2;exact ⟨31 - k,by omega,by rw [hk];omega,e1,e2⟩

def jD (hd top q:Nat) (gx rx:Value):Prop:=∃ g r:Nat,gx=.int .u64 (g:Nat)∧rx=.int .u64 (r:Nat)∧g≤4294967298∧r < 8589934592∧vZ (g * top+r=hd∧q≤g)
theorem jD.mk {hd top q:Nat}(g r:Nat) {x y:Int}(h1:x=(g:Int)) (h2:y=(r:Int)) (h3:g≤4294967298) (h4:r < 8589934592) (h5:g * top+r=hd) (h6:q≤g):jD hd top q (.int .u64 x) (.int .u64 y) :=
 ⟨g,r,by rw [h1],by rw [h2],h3,h4,h5,h6⟩
def yx (V U0 k:Nat) (Lu Lq:List Nat):Prop:=Wds Lu∧Wds Lq∧(∀ j,j < k→wd Lq j=0)∧val Lu < V * 4294967296 ^ k∧val Lu+V * val Lq=U0
theorem mw {Q:List Nat}{i x:Nat}(h0:wd Q i=0) (hi:i < Q.length):val (Q.set i x)=val Q+x * 4294967296 ^ i:=by
 have h:=fl Q i x Q.length hi hi;rw [h0,Nat.zero_mul,Nat.add_zero,aX _ (by rw [List.length_set];exact Qr),aX _ Qr] at h;exact h
theorem iA {V U0 k n' P q:Nat}{L L2 Q:List Nat}(hI:yx V U0 k L Q) (hk:0 < k) (hkQ:k≤Q.length) (hw:Win L L2 (k - 1) (n'+1)) (h7:val L < 4294967296 ^ (k - 1+(n'+1))) (h6:val L=Sm (wd L) (k - 1)+4294967296 ^ (k - 1) * P)
 (hP2:Sm (wn L2 (k - 1)) (n'+1)=P % V) (hq:P / V=q) (hqB:q < 4294967296) (hV:0 < V):yx V U0 (k - 1) L2 (Q.set (k - 1) q):=by
 have hvu2:=nG h7 hw;rw [hP2] at hvu2;have hlow:Sm (wd L) (k - 1) < 4294967296 ^ (k - 1):=er fun i _=>bF hI.1 _
 obtain ⟨h1,h2⟩:=yw hI.2.2.2.2 h6 hvu2 hq.symm hlow hV;refine ⟨hw.2.1,wds_set hI.2.1 _ hqB,fun j hj=>?_,h2,?_⟩
 ·rw [bP,if_neg (by omega)];exact hI.2.2.1 j (by omega)
 rw [mw (hI.2.2.1 _ (by omega)) (by omega)];exact h1
theorem ls (N:Nat):val (List.replicate N 0)=0:=by
 induction N with
 | zero=>rfl
 | succ N ih=>rw [List.replicate_succ,val,ih]
theorem mz (N j:Nat):wd (List.replicate N 0) j=0:=by
 unfold wd;by_cases hj:j < N <;> simp [List.getD,hj]
theorem lu (N:Nat):Wds (List.replicate N 0):=by intro x hx;rw [List.eq_of_mem_replicate hx];omega
theorem rT {l l':List Nat}{n n' N m:Nat}(hw:Wds l) (hl:n=l.length) (hc':aO l') (hl':n'=l'.length) (hn2:2≤n') (hN:N=n+1 - n') (hnn:n'≤n):val l * 2 ^ m < val l' * 2 ^ m * 4294967296 ^ N:=by
 have h1:=cF hw;have h2:=pr hc' (by rintro rfl;simp at hl';omega);rw [← hl] at h1;rw [← hl'] at h2;have h3:4294967296 ^ (n' - 1) * 4294967296 ^ N≤val l' * 4294967296 ^ N:=Nat.mul_le_mul_right _ h2;have h4:4294967296 ^ (n' - 1) * 4294967296 ^ N=4294967296 ^ n:=by rw [← Nat.pow_add];congr 1;omega
 have h5:val l < val l' * 4294967296 ^ N:=by omega
 have h6:=Nat.mul_lt_mul_of_pos_right h5 (show 0 < 2 ^ m from Nat.pow_pos (by omega));have h7:val l' * 4294967296 ^ N * 2 ^ m=val l' * 2 ^ m * 4294967296 ^ N:=by rw [Nat.mul_assoc,Nat.mul_comm (4294967296 ^ N),← Nat.mul_assoc]
 omega

theorem pG (w:World) (A n c l) (wa:Wd w A n c l) (hn:n≤1099511627000) (A' n' c' l') (wb:Wd w A' n' c' l') (hn2:2≤n') (hc:aO l) (hc':aO l') (hge:val l'≤val l) :
    Calls Tryz.prog 171 #[.slice A n c,.slice A' n' c'] w (pE w (val l) (val l')):=by
  have HL:=Qh wa.2.1;have HL':=Qh wb.2.1
  have hnn:n'≤n:=by
    rcases Nat.lt_or_ge n (n') with h | h
    · have:=dh hc.1 hc' (by rw [← HL.out,← HL'.out];exact h)
      omega
    exact h
  have h1:=dI w A n c l wa (by omega) A' (n') c' l' wb (by omega) hc hc';obtain ⟨c0,hc0,hc00⟩:∃ c0,bq (val l) (val l')=c0∧0≤c0:=⟨_,rfl,by unfold bq;rw [if_neg (by omega)];split <;> omega⟩;rw [hc0] at h1;have H1:=Qh h1;obtain ⟨g',o',rfl,hgl,hcell⟩:=wb.at2 (by omega);obtain ⟨t0,ht0⟩:∃ t0,wd l' (n' - 1)=t0:=⟨_,rfl⟩;have hct:=hcell (n' - 1) (by omega);rw [ht0] at hct
  have ht00:t0≠0:=by
    rw [← ht0];have:=hc'.last (by intro e;have:=HL'.out;rw [e] at this;simp at this;omega);rw [← HL'.out] at this;exact this
  have ht01:t0 < 4294967296:=by rw [← ht0];exact wb.lt _
  obtain ⟨m,hm,hmz,hm1,hm2⟩:=tL ht00 ht01;have hlz:=fun W=>(Tryz.bits_LeadingZeros32 (t0:Int) W (by omega) (by omega))
  simp only [Int.toNat_natCast,hmz] at hlz;have HLZ:=Qh hlz;have HT0:=Qh ht0;have HM:=Qh (And.intro hm1 hm2);have hn1:((n':Int) == 1)=false:=by simp;omega
  have hn3:(0:Int)≤(n':Int):=by omega
  have hn4:(n':Int)≤((n'+1:Nat):Int):=by omega
  have hn5:(n':Int)≤(n':Int)+1:=by omega
  clear h1 hc0 hcell hge hmz hm1 hm2 hlz ht0 ht00;go_in
  go_wp2_with (first
    | (go_at_call 119;refine (H1.out).mono ?_;rintro e w1 ⟨rfl,hb1⟩;have hct1:=(hb1.cell (p:=⟨g',o'+(n' - 1),none⟩) hgl).trans hct)
    | (go_at_call 199;refine (HLZ.out _).mono ?_;rintro e w1' ⟨rfl,rfl⟩))
  have k1:Kp w w1':=(Kp.refl w).below hb1
  go_region_held3 (fun _=>True) (trivial)
    (first
      | (go_at_call 200;(with_reducible refine (zP _ (some ⟨g',o',none⟩) (n') c' l' ?_ ?_ m hm).mono ?_);exact wb.keep k1.drew;omega;rintro e w2 ⟨Lv,gv,rfl,hgv,hWv,hLv,hvv,hBv,hb2⟩)
      | (go_at_call 200;(with_reducible refine (zP _ A n c l ?_ ?_ m hm).mono ?_);exact wa.keep (k1.drew.below hb2);omega;rintro e w3 ⟨Lu,gu,rfl,hgu,hWu,hLu,hvu,hBu,hb3⟩))
  have hgv1:w.heap.size≤gv:=Nat.le_trans hb1.size hgv;have hgvu:gv < gu:=Nat.lt_of_lt_of_le hBv.lt hgu;have hguq:gu < w3.heap.size:=hBu.lt;have hgvq:gv < w3.heap.size:=Nat.lt_trans hgvu hguq;have hBv3:=hBv.below hb3 hBv.lt;have hbel3:Below w.heap.size w w3:=(hb1.drew.trans (hb2.mono hb1.size)).trans (hb3.mono (Nat.le_trans hb1.size hb2.size));obtain ⟨N,hN⟩:∃ N,N=n+1 - n':=⟨_,rfl⟩;have HN:=Qh hN;have hN1:N≤1099511627001:=by omega
  obtain ⟨top,next,htop,hnext⟩:∃ x y,wd Lv (n' - 1)=x∧wd Lv (n' - 2)=y:=⟨_,_,rfl,rfl⟩;have hctop:=hBv3.cell (n' - 1);rw [az (by rw [hLv];omega),htop] at hctop;have hcnext:=hBv3.cell (n' - 2);rw [az (by rw [hLv];omega),hnext] at hcnext;have htop1:top < 4294967296:=by rw [← htop];exact bF hWv _
  have hnext1:next < 4294967296:=by rw [← hnext];exact bF hWv _
  obtain ⟨V,hV⟩:∃ V,V=val l' * 2 ^ m:=⟨_,rfl⟩;obtain ⟨U0,hU0⟩:∃ U0,U0=val l * 2 ^ m:=⟨_,rfl⟩;have hnorm:=tJ (nn:=n' - 2) wb.1 (by rw [← HL'.out];omega) (by rw [show n' - 2+1=n' - 1 by omega];exact HT0.out) HM.out.1 HM.out.2 (by rw [hLv];omega) hWv hvv;rw [show n' - 2+2=n' by omega,show n' - 2+1=n' - 1 by omega,htop,← hV] at hnorm;have HV:=Qh (And.intro hV (And.intro hvv hnorm));have htop2:2147483648≤top:=hnorm.2;have HU:=Qh (And.intro hU0 hvu);have HTN:=Qh (And.intro htop hnext);have HLv:=Qh hLv;have HLu:=Qh hLu;have HBv:=Qh hBv3;have HBu:=Qh hBu;have HWv:=Qh hWv;have HWu:=Qh hWu;clear hN hLv hLu hvv hvu hnorm hV hU0 htop hnext hBv hBu hBv3 hWv hWu hct1 hct hgv hgu k1 hb1 hb2 hb3 hn4 hn5;have i1:IntKind.i64.wrap ((n':Int) - 1)=(n':Int) - 1:=IntWalk.i64_in _ ⟨by omega,by omega⟩;have i2:IntKind.i64.wrap ((n':Int) - 2)=(n':Int) - 2:=IntWalk.i64_in _ ⟨by omega,by omega⟩;have i3:(0:Int)≤(n':Int) - 1:=by omega
  have i4:(n':Int) - 1 < (n':Int):=by omega
  have i5:((n':Int) - 1).toNat=n' - 1:=by omega
  have i6:(0:Int)≤(n':Int) - 2:=by omega
  have i7:(n':Int) - 2 < (n':Int):=by omega
  have i8:((n':Int) - 2).toNat=n' - 2:=by omega
  have i9:IntKind.u64.wrap (top:Int)=(top:Int):=IntWalk.u64_in _ ⟨by omega,by omega⟩;have i10:IntKind.u64.wrap (next:Int)=(next:Int):=IntWalk.u64_in _ ⟨by omega,by omega⟩;go_wp2_with (at_make;refine aL _ rfl _ _ rfl _ _ _ _ N rfl rfl (by have:=HN.out;omega) (by have:=HN.out;omega) (by omega) ?_);go_quiet (fail);go_wp2_with fail;clear i1 i2 i3 i4 i5 i6 i7 i8 i9 i10 hctop hcnext;go_loopw [14] (fun iv wr=>∃ (k:Nat) (L Q:List Nat),k≤N∧iv=.int .i64 ((k:Int) - 1)∧L.length=n+1∧Q.length=N∧yx V U0 k L Q∧Blk wr gu 173 (cellsOf L)∧Blk wr w3.heap.size 173 (cellsOf Q)∧Blk wr gv 173 (cellsOf Lv)∧Below w.heap.size w wr) (fun iv _=>(intOf iv+1).toNat)
  case atStart =>
    refine ⟨N,Lu,List.replicate N 0,Qr,rfl,HLu.out,by simp,⟨HWu.out,lu N,fun j _=>mz N j,?_,?_⟩,?_,?_,?_,?_⟩
    · rw [HU.out.2,HV.out.1];exact rT wa.1 HL.out hc' HL'.out hn2 HN.out hnn
    · rw [ls,HU.out.2,HU.out.1];simp
    · exact (HBu.out.alloc _).drewN _
    · exact (Blk.new _ _ _).drewN _
    · exact (HBv.out.alloc _).drewN _
    exact af (hbel3.alloc hbel3.size _) _
  case round =>
    obtain ⟨k,L,Q,hk,rfl,hLL,hLQ,hI,hBu,hBq,hBv,hbel⟩:=hrel;have HI:=Qh hI;have HBu2:=Qh hBu;have HBq2:=Qh hBq;have HBv2:=Qh hBv;have HLL:=Qh hLL;have HLQ:=Qh hLQ;clear hI hBu hBq hBv hLL hLQ;by_cases hk0:k=0
    · subst hk0
      have hval:=rP (a:=val l) (b:=val l') (q:=val Q) (r:=val L) (s:=2 ^ m) (Nat.pow_pos (by omega))
        (by have:=HV.out.2.2.1;have h3:=HV.out.1;rcases Nat.eq_zero_or_pos (val l') with h0 | h0
            · exfalso
              have h4:=HI.out.2.2.2.1;rw [h3,h0,Nat.zero_mul,Nat.zero_mul] at h4;omega
            exact h0)
        (by rw [← HV.out.1,← HU.out.1];exact HI.out.2.2.2.2) (by rw [← HV.out.1];have:=HI.out.2.2.2.1;rw [Nat.pow_zero,Nat.mul_one] at this;exact this)
      have HQR:=Qh hval;clear hval;have e0:((0:Nat):Int) - 1=-1:=rfl;rw [e0];clear e0
      go_wp2_with (first
        | (go_at_call 156;(with_reducible refine (eH _ (some ⟨w3.heap.size,0,none⟩) N N Q ?_ (by omega)).mono ?_);exact HBq2.out.wdN HI.out.2.1 HLQ.out;rintro e w5 ⟨A5,n5,c5,rfl,h5,hb5⟩)
        | (go_at_call 203;(with_reducible refine (yu _ (some ⟨gu,0,none⟩) (n+1) (n+1) L ?_ (by omega) m hm).mono ?_);exact (HBu2.out.below hb5 HBu2.out.lt).wdN HI.out.1 HLL.out;rintro e w6 ⟨A6,n6,c6,rfl,h6,hb6⟩))
      go_ret2;rw [HQR.out.1] at h5;rw [HQR.out.2] at h6;exact ⟨_,_,_,_,_,_,rfl,h5.keep ((Kp.refl _).below hb6),h6,hbel.trans ((hb5.mono hbel.size).trans (hb6.mono (Nat.le_trans hbel.size hb5.size)))⟩
    have hNle:N+n'=n+1:=by have:=HN.out;omega
    have HNle:=Qh hNle;have hjn:k+n'≤n+1:=by omega
    clear hNle;obtain ⟨pa,pb,pc,hpa,hpb,hpc⟩:∃ x y z,wd L (k - 1+n')=x∧wd L (k - 1+(n' - 1))=y∧wd L (k - 1+(n' - 2))=z:=⟨_,_,_,rfl,rfl,rfl⟩;have hca:=HBu2.out.cell (k - 1+n');rw [az (by rw [HLL.out];omega),hpa] at hca;have hcb:=HBu2.out.cell (k - 1+(n' - 1));rw [az (by rw [HLL.out];omega),hpb] at hcb;have hcc:=HBu2.out.cell (k - 1+(n' - 2));rw [az (by rw [HLL.out];omega),hpc] at hcc;have hpa1:pa < 4294967296:=by rw [← hpa];exact bF HI.out.1 _
    have hpb1:pb < 4294967296:=by rw [← hpb];exact bF HI.out.1 _
    have hpc1:pc < 4294967296:=by rw [← hpc];exact bF HI.out.1 _
    have HP:=Qh (And.intro hpa (And.intro hpb hpc));have hkp:0 < k:=by omega
    clear hpa hpb hpc hk0;obtain ⟨hd,hhd⟩:∃ hd:Nat,hd=pa * 4294967296+pb:=⟨_,rfl⟩;have HHD:=Qh hhd;obtain ⟨g0,r0,hg0,hr0⟩:∃ g0 r0:Nat,hd / top=g0∧hd % top=r0:=⟨_,_,rfl,rfl⟩;have HGR:=Qh (And.intro hg0 hr0);go_wp2_with fail;have e15:k - 1+n'+1 - (k - 1)=n'+1:=by omega
    rw [e15];clear e15;have i1:IntKind.i64.wrap ((n':Int) - 1)=(n':Int) - 1:=IntWalk.i64_in _ ⟨by omega,by omega⟩;have i3:(0:Int)≤(n':Int) - 1:=by omega
    have i4:(n':Int) - 1 < (n':Int)+1:=by omega
    have i5:((n':Int) - 1).toNat=n' - 1:=by omega
    have i6:(n':Int) < (n':Int)+1:=by omega
    have j1:IntKind.u64.wrap (pa:Int)=(pa:Int):=IntWalk.u64_in _ ⟨by omega,by omega⟩;have j2:IntKind.u64.wrap (pb:Int)=(pb:Int):=IntWalk.u64_in _ ⟨by omega,by omega⟩;have j3:IntKind.u64.wrap ((pa:Int) * 4294967296)=(pa:Int) * 4294967296:=IntWalk.u64_in _ ⟨by omega,by omega⟩;have j4:bits .or .u64 ((pa:Int) * 4294967296) (pb:Int)=(hd:Int):=by rw [hhd];exact jC hpa1 hpb1
    clear hhd hg0 hr0
    have hset:=rQ (L:=L) (lv:=Lv.take n') (V:=V) (nn:=n' - 2) (k:=k) (pa:=pa) (pb:=pb) (pc:=pc) (top:=top) (next:=next) HI.out.1 (Wds.take HWv.out _) (by rw [List.length_take,HLv.out];omega) HV.out.2.2.1 hkp HI.out.2.2.2.1
      (by rw [show n' - 2+2=n' by omega];exact HP.out.1) (by rw [show n' - 2+1=n' - 1 by omega];exact HP.out.2.1) HP.out.2.2 (by rw [show n' - 2+1=n' - 1 by omega,mu (by omega)];exact HTN.out.1) (by rw [mu (by omega)];exact HTN.out.2)
    rw [show n' - 2+3=n'+1 by omega] at hset;obtain ⟨lowp,lowv,hs1,hs2,hs3,hs4,hs5,hs6,hs7⟩:=hset;obtain ⟨P,hPd⟩:∃ P,Sm (wn L (k - 1)) (n'+1)=P:=⟨_,rfl⟩;rw [hPd] at hs1 hs5 hs6;rw [← HHD.out] at hs1;have htp:0 < top:=by omega
    have hVp:0 < V:=by
      rw [hs3];have:1 * (4294967296 ^ (n' - 2) * 4294967296)≤top * (4294967296 ^ (n' - 2) * 4294967296):=Nat.mul_le_mul_right _ htp;have h2:=fG (n' - 2);omega
    have hhd2:hd < (top+1) * 4294967296:=wE (D:=4294967296 ^ (n' - 2)) (third:=pc * 4294967296 ^ (n' - 2)+lowp) (lowv:=next * 4294967296 ^ (n' - 2)+lowv) (by rw [hs1,Nat.add_assoc]) (by rw [hs3,Nat.add_assoc]) (by
      have h1:(next+1) * 4294967296 ^ (n' - 2)≤4294967296 * 4294967296 ^ (n' - 2):=Nat.mul_le_mul_right _ hnext1;rw [Nat.add_mul,Nat.mul_comm 4294967296] at h1
      omega) hs5
    have hst:=nI (pb:=0) hs1 hs2 hpc1 hs3 htp;have hgl:=tI hhd2 htop2;have hdm:=Nat.div_add_mod hd top;rw [HGR.out.1] at hst hgl hdm;rw [HGR.out.2] at hdm;have hr0:r0 < top:=by rw [← HGR.out.2];exact Nat.mod_lt _ htp
    obtain ⟨q,hqd⟩:∃ q,P / V=q:=⟨_,rfl⟩;rw [hqd] at hst;have HS:=Qh (And.intro hs1 (And.intro hs2 (And.intro hs3 (And.intro hs4 (And.intro hs5 (And.intro hs6 hs7))))));have HPQ:=Qh (And.intro hPd hqd);have HG0:=Qh (And.intro hst hdm);have HHB:=Qh (And.intro hhd2 hVp);clear hs1 hs2 hs3 hs4 hs5 hs6 hs7 hPd hqd hst hdm hhd2 hVp;go_quiet (fail);go_wp2_with fail;go_quiet (fail);go_wp2_with fail;clear i1 i3 i4 i5 i6 j1 j2 j3 j4;go_loop [17,18] (fun gx rx=>jD hd top q gx rx) (fun gx _=>(intOf gx).toNat)
    case atStart =>
      have e1:(hd:Int) / (top:Int)=(g0:Int):=by rw [← HGR.out.1];simp
      have e2:(hd:Int) % (top:Int)=(r0:Int):=by rw [← HGR.out.2];simp
      have e3:IntKind.u64.wrap ((hd:Int) / (top:Int))=(g0:Int):=by rw [e1];exact IntWalk.u64_in _ ⟨by omega,by omega⟩
      exact jD.mk g0 r0 e3 e2 hgl (by omega) (by rw [Nat.mul_comm];exact HG0.out.2) HG0.out.1
    case round =>
      obtain ⟨g,r,rfl,rfl,hgb,hrb,hK⟩:=hrel;have HK:=Qh hK;clear hK;have hn2':(2:Int)≤(n':Int):=by omega
      obtain ⟨gp,hgp⟩:∃ gp:Nat,gp=g * next:=⟨_,rfl⟩;obtain ⟨rp,hrp⟩:∃ rp:Nat,rp=r * 4294967296+pc:=⟨_,rfl⟩;have HGP:=Qh (And.intro hgp hrp);by_cases hrB:r < 4294967296
      · have d1:decide ((r:Int) < 4294967296)=true:=by simp;omega
        by_cases hgB:g < 4294967296
        · have j1:IntKind.u64.wrap ((g:Int) * (next:Int))=(gp:Int):=by
            have hxy:g * next≤4294967295 * 4294967295:=Nat.mul_le_mul (by omega) (by omega);have e:(g:Int) * (next:Int)=((g * next:Nat):Int):=by simp
            rw [e,hgp];exact IntWalk.u64_in _ ⟨Int.natCast_nonneg _,by omega⟩
          have j2:bits .or .u64 ((r:Int) * 4294967296) (pc:Int)=(rp:Int):=by rw [hrp];exact jC hrB hpc1
          have d2:decide ((4294967296:Int)≤(g:Int))=false:=by simp;omega
          clear hgp hrp;by_cases hT:rp < gp
          · have d3:decide ((rp:Int) < (gp:Int))=true:=by simp;omega
            have hcont:=ku HS.out.1 HS.out.2.1 HS.out.2.2.1 HHB.out.2 HS.out.2.2.2.2.1 HK.out.1 (.inr (by rw [← HGP.out.1,← HGP.out.2];exact hT));rw [HPQ.out.2] at hcont;have hgp1:1≤g:=by omega
            go_wp2;clear j1 j2 d1 d2 d3;go_round
            case rel =>
              refine jD.mk (g - 1) (r+top) ?_ ?_ ?_ ?_ ?_ ?_
              · omega
              · omega
              · omega
              · omega
              · have h1:=HK.out.1
                have h2:(g - 1) * top+top=g * top:=by rw [← Nat.succ_mul];congr 1;omega
                omega
              omega
            case measure=>simp [intOf];omega
          have d3:decide ((rp:Int) < (gp:Int))=false:=by simp;omega
          have hex:=kw HS.out.1 HS.out.2.2.1 HS.out.2.2.2.1 HHB.out.2 htp hnext1 HHB.out.1 HK.out.1 (.inr ⟨hgB,by rw [← HGP.out.1,← HGP.out.2];omega⟩);rw [HPQ.out.2] at hex;obtain ⟨hgB2,hgq⟩:=hex;have HX:=Qh hgq;clear hgq;go_wp2_with fail;clear j1 j2 d1 d2 d3;refine (nL _ gu (k - 1) (n'+1) _ L ?_ HI.out.1 ?_ ?_ (some ⟨gv,0,none⟩) n' (n'+1) (Lv.take n') ?_ ?_ ?_ g hgB2).mono ?_
          · exact HBu2.out.drewN _
          · rw [HLL.out];omega
          · omega
          · exact (HBv2.out.drewN _).wdT HWv.out (by rw [HLv.out];omega) (by omega)
          · intro a ha;injection ha with ha;subst ha;show gv≠gu;omega
          · omega
          rintro e wR ⟨L1,b,hb,rfl,hB1,hW1,hE1,hG1⟩;have hBqR:=(HBq2.out.drewN _).grown hG1 (by intro e;injection e with e;omega);have hBvR:=(HBv2.out.drewN _).grown hG1 (by intro e;injection e with e;omega);have hbelR:Below w.heap.size w wR:=(af hbel _).grown hG1 hbel.size (by intro x hx;injection hx with hx;omega);have hcq:=hBqR.cell (k - 1);rw [az (by rw [HLQ.out];omega)] at hcq;have hfq:=hBqR.frozen (k - 1);have HB1:=Qh (And.intro hB1 (And.intro hBqR (And.intro hBvR (And.intro hW1 hbelR))));rw [HPQ.out.1,HV.out.2.2.1] at hE1;have HE1:=Qh hE1;clear hB1 hBqR hBvR hbelR hE1 hG1 hW1;rcases (show b=0∨b=1 by omega) with rfl | rfl
          · have hz:=lO HHB.out.2 HPQ.out.2.symm HK.out.2 (by have:=HE1.out;rw [Nat.zero_mul,Nat.add_zero] at this;exact this)
            have HZ:=Qh hz;clear hz;go_wp2;go_roundw
            case rel =>
              refine ⟨k - 1,L1,Q.set (k - 1) g,by omega,by go_num,by rw [HB1.out.2.2.2.1.1];exact HLL.out,by rw [List.length_set];exact HLQ.out,?_,?_,?_,?_,?_⟩
              · rw [HZ.out.1]
                exact iA HI.out hkp (by rw [HLQ.out];exact hk) HB1.out.2.2.2.1 HS.out.2.2.2.2.2.2 HS.out.2.2.2.2.2.1 HZ.out.2 HPQ.out.2 (by rw [← HZ.out.1];exact hgB2) HHB.out.2
              · exact HB1.out.1.far (by show gu≠w3.heap.size;omega) _
              · exact HB1.out.2.1.setW (k - 1) _ _ (by omega)
              · exact HB1.out.2.2.1.far (by show gv≠w3.heap.size;omega) _
              exact HB1.out.2.2.2.2.setCell (by show w.heap.size≤w3.heap.size;omega) _
            case measure=>simp [intOf];omega
          · have hgp1:1≤g:=by
              rcases Nat.eq_zero_or_pos g with h0 | h0
              · exfalso
                have h1:=HE1.out;rw [h0,Nat.zero_mul,Nat.add_zero,Nat.one_mul] at h1;have h2:Sm (wn L1 (k - 1)) (n'+1) < 4294967296 ^ (n'+1):=er fun i _=>bF HB1.out.2.2.2.1.2.1 _
                omega
              exact h0
            go_wp2_with fail;refine (tK _ gu (k - 1) (n'+1) _ L1 ?_ HB1.out.2.2.2.1.2.1 ?_ ?_ (some ⟨gv,0,none⟩) n' (n'+1) (Lv.take n') ?_ ?_ ?_).mono ?_
            · exact HB1.out.1
            · rw [HB1.out.2.2.2.1.1,HLL.out];omega
            · omega
            · exact HB1.out.2.2.1.wdT HWv.out (by rw [HLv.out];omega) (by omega)
            · intro a ha;injection ha with ha;subst ha;show gv≠gu;omega
            · omega
            rintro e wB ⟨L2,cb,hcb,rfl,hB2,hW2,hE2,hG2⟩;have hBqB:=HB1.out.2.1.grown hG2 (by intro e;injection e with e;omega);have hBvB:=HB1.out.2.2.1.grown hG2 (by intro e;injection e with e;omega);have hbelB:Below w.heap.size w wB:=HB1.out.2.2.2.2.grown hG2 HB1.out.2.2.2.2.size (by intro x hx;injection hx with hx;omega);have hcq2:=hBqB.cell (k - 1);rw [az (by rw [HLQ.out];omega)] at hcq2;have hfq2:=hBqB.frozen (k - 1);rw [HV.out.2.2.1] at hE2
            have hVT:V≤4294967296 ^ (n'+1):=by
              have h1:=cF (Wds.take HWv.out n');rw [HV.out.2.2.1,List.length_take] at h1;have h2:4294967296 ^ (min n' Lv.length)≤4294967296 ^ (n'+1):=Nat.pow_le_pow_right (by omega) (by omega);omega
            have hz:=nH HHB.out.2 HPQ.out.2.symm HX.out (er fun i _=>bF HB1.out.2.2.2.1.2.1 _) HE1.out hE2 hcb (er fun i _=>bF hW2.2.1 _);have HZ:=Qh hz;have HB3:=Qh (And.intro hB2 (And.intro hBqB (And.intro hBvB (And.intro (HB1.out.2.2.2.1.trans hW2) hbelB))));clear hz hB2 hBqB hBvB hbelB hE2 hG2 hW2 hcq hfq hVT;go_wp2;go_roundw
            case rel =>
              refine ⟨k - 1,L2,Q.set (k - 1) q,by omega,by go_num,by rw [HB3.out.2.2.2.1.1];exact HLL.out,by rw [List.length_set];exact HLQ.out,?_,?_,?_,?_,?_⟩
              · exact iA HI.out hkp (by rw [HLQ.out];exact hk) HB3.out.2.2.2.1 HS.out.2.2.2.2.2.2 HS.out.2.2.2.2.2.1 HZ.out.2 HPQ.out.2 (by have:=HZ.out.1;omega) HHB.out.2
              · exact HB3.out.1.far (by show gu≠w3.heap.size;omega) _
              · exact HB3.out.2.1.setW (k - 1) _ _ (by have:=HZ.out.1;omega)
              · exact HB3.out.2.2.1.far (by show gv≠w3.heap.size;omega) _
              exact HB3.out.2.2.2.2.setCell (by show w.heap.size≤w3.heap.size;omega) _
            case measure=>simp [intOf];omega
        have d2:decide ((4294967296:Int)≤(g:Int))=true:=by simp;omega
        have hcont:=ku HS.out.1 HS.out.2.1 HS.out.2.2.1 HHB.out.2 HS.out.2.2.2.2.1 HK.out.1 (.inl (by omega));rw [HPQ.out.2] at hcont;have hgp1:1≤g:=by omega
        clear hgp hrp;go_wp2;clear d1 d2;go_round
        case rel =>
            refine jD.mk (g - 1) (r+top) ?_ ?_ ?_ ?_ ?_ ?_
            · omega
            · omega
            · omega
            · omega
            · have h1:=HK.out.1
              have h2:(g - 1) * top+top=g * top:=by rw [← Nat.succ_mul];congr 1;omega
              omega
            omega
        case measure=>simp [intOf];omega
      have d1:decide ((r:Int) < 4294967296)=false:=by simp;omega
      clear hgp hrp;have hex:=kw HS.out.1 HS.out.2.2.1 HS.out.2.2.2.1 HHB.out.2 htp hnext1 HHB.out.1 HK.out.1 (.inl (by omega));rw [HPQ.out.2] at hex;obtain ⟨hgB2,hgq⟩:=hex;have HX:=Qh hgq;clear hgq;go_wp2_with fail;clear d1;refine (nL _ gu (k - 1) (n'+1) _ L ?_ HI.out.1 ?_ ?_ (some ⟨gv,0,none⟩) n' (n'+1) (Lv.take n') ?_ ?_ ?_ g hgB2).mono ?_
      · exact HBu2.out.drewN _
      · rw [HLL.out];omega
      · omega
      · exact (HBv2.out.drewN _).wdT HWv.out (by rw [HLv.out];omega) (by omega)
      · intro a ha;injection ha with ha;subst ha;show gv≠gu;omega
      · omega
      rintro e wR ⟨L1,b,hb,rfl,hB1,hW1,hE1,hG1⟩;have hBqR:=(HBq2.out.drewN _).grown hG1 (by intro e;injection e with e;omega);have hBvR:=(HBv2.out.drewN _).grown hG1 (by intro e;injection e with e;omega);have hbelR:Below w.heap.size w wR:=(af hbel _).grown hG1 hbel.size (by intro x hx;injection hx with hx;omega);have hcq:=hBqR.cell (k - 1);rw [az (by rw [HLQ.out];omega)] at hcq;have hfq:=hBqR.frozen (k - 1);have HB1:=Qh (And.intro hB1 (And.intro hBqR (And.intro hBvR (And.intro hW1 hbelR))));rw [HPQ.out.1,HV.out.2.2.1] at hE1;have HE1:=Qh hE1;clear hB1 hBqR hBvR hbelR hE1 hG1 hW1;rcases (show b=0∨b=1 by omega) with rfl | rfl
      · have hz:=lO HHB.out.2 HPQ.out.2.symm HK.out.2 (by have:=HE1.out;rw [Nat.zero_mul,Nat.add_zero] at this;exact this)
        have HZ:=Qh hz;clear hz;go_wp2;go_roundw
        case rel =>
          refine ⟨k - 1,L1,Q.set (k - 1) g,by omega,by go_num,by rw [HB1.out.2.2.2.1.1];exact HLL.out,by rw [List.length_set];exact HLQ.out,?_,?_,?_,?_,?_⟩
          · rw [HZ.out.1]
            exact iA HI.out hkp (by rw [HLQ.out];exact hk) HB1.out.2.2.2.1 HS.out.2.2.2.2.2.2 HS.out.2.2.2.2.2.1 HZ.out.2 HPQ.out.2 (by rw [← HZ.out.1];exact hgB2) HHB.out.2
          · exact HB1.out.1.far (by show gu≠w3.heap.size;omega) _
          · exact HB1.out.2.1.setW (k - 1) _ _ (by omega)
          · exact HB1.out.2.2.1.far (by show gv≠w3.heap.size;omega) _
          exact HB1.out.2.2.2.2.setCell (by show w.heap.size≤w3.heap.size;omega) _
        case measure=>simp [intOf];omega
      · have hgp1:1≤g:=by
          rcases Nat.eq_zero_or_pos g with h0 | h0
          · exfalso
            have h1:=HE1.out;rw [h0,Nat.zero_mul,Nat.add_zero,Nat.one_mul] at h1;have h2:Sm (wn L1 (k - 1)) (n'+1) < 4294967296 ^ (n'+1):=er fun i _=>bF HB1.out.2.2.2.1.2.1 _
            omega
          exact h0
        go_wp2_with fail;refine (tK _ gu (k - 1) (n'+1) _ L1 ?_ HB1.out.2.2.2.1.2.1 ?_ ?_ (some ⟨gv,0,none⟩) n' (n'+1) (Lv.take n') ?_ ?_ ?_).mono ?_
        · exact HB1.out.1
        · rw [HB1.out.2.2.2.1.1,HLL.out];omega
        · omega
        · exact HB1.out.2.2.1.wdT HWv.out (by rw [HLv.out];omega) (by omega)
        · intro a ha;injection ha with ha;subst ha;show gv≠gu;omega
        · omega
        rintro e wB ⟨L2,cb,hcb,rfl,hB2,hW2,hE2,hG2⟩;have hBqB:=HB1.out.2.1.grown hG2 (by intro e;injection e with e;omega);have hBvB:=HB1.out.2.2.1.grown hG2 (by intro e;injection e with e;omega);have hbelB:Below w.heap.size w wB:=HB1.out.2.2.2.2.grown hG2 HB1.out.2.2.2.2.size (by intro x hx;injection hx with hx;omega);have hcq2:=hBqB.cell (k - 1);rw [az (by rw [HLQ.out];omega)] at hcq2;have hfq2:=hBqB.frozen (k - 1);rw [HV.out.2.2.1] at hE2
        have hVT:V≤4294967296 ^ (n'+1):=by
          have h1:=cF (Wds.take HWv.out n');rw [HV.out.2.2.1,List.length_take] at h1;have h2:4294967296 ^ (min n' Lv.length)≤4294967296 ^ (n'+1):=Nat.pow_le_pow_right (by omega) (by omega);omega
        have hz:=nH HHB.out.2 HPQ.out.2.symm HX.out (er fun i _=>bF HB1.out.2.2.2.1.2.1 _) HE1.out hE2 hcb (er fun i _=>bF hW2.2.1 _);have HZ:=Qh hz;have HB3:=Qh (And.intro hB2 (And.intro hBqB (And.intro hBvB (And.intro (HB1.out.2.2.2.1.trans hW2) hbelB))));clear hz hB2 hBqB hBvB hbelB hE2 hG2 hW2 hcq hfq hVT;go_wp2;go_roundw
        case rel =>
          refine ⟨k - 1,L2,Q.set (k - 1) q,by omega,by go_num,by rw [HB3.out.2.2.2.1.1];exact HLL.out,by rw [List.length_set];exact HLQ.out,?_,?_,?_,?_,?_⟩
          · exact iA HI.out hkp (by rw [HLQ.out];exact hk) HB3.out.2.2.2.1 HS.out.2.2.2.2.2.2 HS.out.2.2.2.2.2.1 HZ.out.2 HPQ.out.2 (by have:=HZ.out.1;omega) HHB.out.2
          · exact HB3.out.1.far (by show gu≠w3.heap.size;omega) _
          · exact HB3.out.2.1.setW (k - 1) _ _ (by have:=HZ.out.1;omega)
          · exact HB3.out.2.2.1.far (by show gv≠w3.heap.size;omega) _
          exact HB3.out.2.2.2.2.setCell (by show w.heap.size≤w3.heap.size;omega) _
        case measure=>simp [intOf];omega

theorem nN (w:World) (A n c l) (wa:Wd w A n c l) (hn:n≤1099511627000) (A' n' c' l') (wb:Wd w A' n' c' l') (hn':n'≤1099511627000) (hc:aO l) (hc':aO l') (h0:val l'≠0) :
 Calls Tryz.prog 171 #[.slice A n c,.slice A' n' c'] w (pE w (val l) (val l')):=by
 rcases Nat.lt_or_ge (val l) (val l') with h | h
 ·exact rS w A n c l wa (by omega) A' n' c' l' wb (by omega) hc hc' h
 by_cases h1:n'=1
 ·exact pF w A n c l wa (by omega) A' n' c' l' wb hc hc' h h1
 refine pG w A n c l wa hn A' n' c' l' wb ?_ hc hc' h;rcases Nat.eq_zero_or_pos n' with h2 | h2
 ·exfalso
  have:=wb.2.1;rw [h2] at this;rw [List.eq_nil_of_length_eq_zero this.symm] at h0;exact h0 rfl
 omega

def tM (w:World) (p:Addr):Nat:=match w.cell? p with
  | some (.int _ z)=>z.toNat
  | _=>0
def valOf (w:World):Value→Nat
  | .slice (some a) n _=>val ((List.range n).map fun i=>tM w ⟨a.block,a.off+i,none⟩)
  | _=>0
theorem Wd.valOf {w:World}{A:Option Addr}{n c:Nat}{l:List Nat}(h:Wd w A n c l):valOf w (.slice A n c)=val l:=by
 rcases Nat.eq_zero_or_pos n with h0 | h0
 ·subst h0
  have:=h.2.1;have hl:l=[]:=List.eq_nil_of_length_eq_zero this.symm;subst hl;unfold Go.Proofs.YtndhgcfajlalhaaGreatDoor.valOf;cases A <;> rfl
 obtain ⟨g,o,rfl,hc⟩:=h.at_ h0;unfold Go.Proofs.YtndhgcfajlalhaaGreatDoor.valOf;show val _=val l;congr 1;apply List.ext_getElem
 ·simp [h.2.1]
 intro i h1 h2;have h3:i < n:=by rw [h.2.1];exact h2
 simp only [List.getElem_map,List.getElem_range,tM];rw [hc i h3];simp [wd,h2]
theorem qL {w:World}{A:Option Addr}{n c:Nat}{x y:Nat}(h:Wd w A n c (am (x % y))) (hy:y≠0) {N:Nat}(hN:y < 4294967296 ^ N):n≤N:=by
 rw [h.2.1];exact ar (Nat.lt_trans (Nat.mod_lt _ (Nat.pos_of_ne_zero hy)) hN)

theorem kx (a:WD):a.z.natAbs=val a.m:=by
 rw [a.z_eq];cases a.s <;> simp [sgn]
def zR (G:Nat) (W0 wr:World) (x y:Value):Prop:=∃ A1 n1 c1 l1 A2 n2 c2 l2,x=.slice A1 n1 c1∧y=.slice A2 n2 c2∧n1≤1099511627000∧n2≤1099511627000∧vZ (Wd wr A1 n1 c1 l1∧Wd wr A2 n2 c2 l2∧aO l1∧aO l2∧Nat.gcd (val l1) (val l2)=G)∧Below W0.heap.size W0 wr
theorem zS (w:World) (b:Bool) (A n c l) (wa:Wd w A n c l) (hn:n≤1099511627000) (b':Bool) (A' n' c' l') (wb:Wd w A' n' c' l') (hn':n'≤1099511627000) :
 Calls Tryz.prog 137 #[.agg #[.bool b,.slice A n c],.agg #[.bool b',.slice A' n' c']] w (ia w (wh (Nat.gcd (WD.z ⟨b,l⟩).natAbs (WD.z ⟨b',l'⟩).natAbs:Nat))):=by
 have HL:=Qh wa.2.1;have HL':=Qh wb.2.1;have hcm1:aO (WD.m ⟨b,l⟩):=WD.canon_m wa.1;have hcm2:aO (WD.m ⟨b',l'⟩):=WD.canon_m wb.1;rw [kx ⟨b,l⟩,kx ⟨b',l'⟩];obtain ⟨G,hG⟩:∃ G,Nat.gcd (val (WD.m ⟨b,l⟩)) (val (WD.m ⟨b',l'⟩))=G:=⟨_,rfl⟩;rw [hG];have HGG:=Qh hG;clear hG;go_in;go_wp2_with fail;have b0:Below w.heap.size w (((w.alloc (.cells #[.bool b,.slice A n c] 134)).alloc (.cells #[.bool b',.slice A' n' c'] 134)).alloc (.cells #[.bool false,.slice none 0 0] 134)):=((((Below.refl _ _).alloc Qr _).alloc (by simp) _).alloc (by simp;omega) _);generalize hW0:(((w.alloc (.cells #[.bool b,.slice A n c] 134)).alloc (.cells #[.bool b',.slice A' n' c'] 134)).alloc (.cells #[.bool false,.slice none 0 0] 134))=W0 at b0 ⊢;have c00:W0.cell? ⟨w.heap.size,0,none⟩=some (.bool b):=by subst hW0;simp [go_sem]
 have f00:W0.frozen? ⟨w.heap.size,0,none⟩=false:=by subst hW0;simp [go_sem]
 have c01:W0.cell? ⟨w.heap.size,1,none⟩=some (.slice A n c):=by subst hW0;simp [go_sem]
 have f01:W0.frozen? ⟨w.heap.size,1,none⟩=false:=by subst hW0;simp [go_sem]
 have c10:W0.cell? ⟨w.heap.size+1,0,none⟩=some (.bool b'):=by subst hW0;simp [go_sem]
 have f10:W0.frozen? ⟨w.heap.size+1,0,none⟩=false:=by subst hW0;simp [go_sem]
 have c11:W0.cell? ⟨w.heap.size+1,1,none⟩=some (.slice A' n' c'):=by subst hW0;simp [go_sem]
 have f11:W0.frozen? ⟨w.heap.size+1,1,none⟩=false:=by subst hW0;simp [go_sem]
 have c20:W0.cell? ⟨w.heap.size+1+1,0,none⟩=some (.bool false):=by subst hW0;simp [go_sem]
 have f20:W0.frozen? ⟨w.heap.size+1+1,0,none⟩=false:=by subst hW0;simp [go_sem]
 have c21:W0.cell? ⟨w.heap.size+1+1,1,none⟩=some (.slice none 0 0):=by subst hW0;simp [go_sem]
 have f21:W0.frozen? ⟨w.heap.size+1+1,1,none⟩=false:=by subst hW0;simp [go_sem]
 have x0:Box W0 w.heap.size 134:=by subst hW0;exact ((bG _ _ _ (by simp)).alloc _).alloc _
 have x1:Box W0 (w.heap.size+1) 134:=by subst hW0;exact (bG _ _ _ (by simp)).alloc _
 have x2:Box W0 (w.heap.size+1+1) 134:=by subst hW0;exact bG _ _ _ (by simp)
 have hm0:ix (w.heap.size+1+1) (w.heap.size+1+1+1) 2 W0:=by subst hW0;exact lL (by simp)
 have hs0:w.heap.size+1+1+1≤W0.heap.size:=by subst hW0;simp
 clear hW0;have wa:=wa.belw b0;have wb:=wb.belw b0;have r0:Below W0.heap.size W0 W0:=aa _
 go_region_held3 (fun w'=>bj (w.heap.size+1+1) (w.heap.size+1+1+1) 2 W0 w') (first | exact bj.of (by omega) hs0 hm0 (by assumption) | exact bj.of (by omega) hs0 hm0 (af (by assumption) _))
  (first
   | (go_at_call 120;(with_reducible refine (dQ _ b A n c l ?_ ?_).mono ?_);(exact wa);(omega);rintro e w1 ⟨A1,n1,c1,rfl,h1,hb1⟩;replace hb1:=ah (af (aa _) 1) hb1;have r1:=ah r0 hb1;replace wa:=wa.belw hb1;replace wb:=wb.belw hb1)
   | (go_at_call 120;(with_reducible refine (dQ _ b' A' n' c' l' ?_ ?_).mono ?_);(exact wb);(omega);rintro e w2 ⟨A2,n2,c2,rfl,h2,hb2⟩;have r2:=ah r1 hb2;replace wa:=wa.belw hb2;replace wb:=wb.belw hb2;replace h1:=h1.belw hb2))
 obtain ⟨⟨sc,sf⟩,sr,sz⟩:=bj.of (by omega) hs0 hm0 r2;have hn1:n1≤1099511627000:=h1.m_len (by rw [← HL.out];exact hn);have hn2:n2≤1099511627000:=h2.m_len (by rw [← HL'.out];exact hn');have hat:zR G W0 w2 (.slice A1 n1 c1) (.slice A2 n2 c2):=⟨A1,n1,c1,_,A2,n2,c2,_,rfl,rfl,hn1,hn2,⟨h1,h2,hcm1,hcm2,HGG.out⟩,r2⟩;go_wp2_with fail;clear sc sf sr sz;go_loopw [5,6] (fun x y wr=>zR G W0 wr x y) (fun _ y wr=>valOf wr y)
 case atStart=>exact hat
 case round =>
  obtain ⟨A3,n3,c3,l3,A4,n4,c4,l4,rfl,rfl,hn3,hn4,hK,rr⟩:=hrel;have hm5:valOf wr (.slice A4 n4 c4)=val l4:=hK.2.1.valOf;by_cases h0:n4=0
  ·have e1:decide (0 < n4)=false:=by simp;omega
   have hl4:l4=[]:=List.eq_nil_of_length_eq_zero (by rw [← hK.2.1.2.1];exact h0);have hg:val l3=G:=by have:=hK.2.2.2.2;rw [hl4] at this;simpa [val] using this
   have HG:=Qh hg;clear hg h0;obtain ⟨⟨sc,sf⟩,sr,sz⟩:=bj.of (by omega) hs0 hm0 rr;go_wp2_with (go_at_call 140;(with_reducible refine (cR _ false A3 n3 c3 l3 (G:Nat) ?_ ?_ ?_).mono ?_);(exact hK.1);(omega);(rw [HG.out];rfl);rintro e w9 ⟨A5,n5,c5,rfl,h5,hb9⟩;have r9:=ah rr hb9;clear sc sf sr sz;obtain ⟨⟨sc,sf⟩,sr,sz⟩:=bj.of (by omega) hs0 hm0 r9);refine bodyPost_ret (v:=.agg #[.bool _,.slice A5 n5 c5]) (by simp [results,Tryz.results137,go_sem,sr];rfl) rfl ?_;have x:=x2.below r9;refine jB ?_ ?_ ?_
   ·rfl
   ·exact h5.keep (kp2 x (by decide) _ _ _ _)
   exact ((b0.trans (r9.mono b0.size)).setCell (by dsimp only;omega) _).setCell (by dsimp only;omega) _
  have e1:decide (0 < n4)=true:=by simp;omega
  have hv4:val l4≠0:=by
   intro e;have:=(cN hK.2.2.2.1).1 e;have h9:=hK.2.1.2.1;rw [this] at h9;exact h0 h9
  have HV:=Qh hv4;have H0:=Qh h0;clear h0 hv4;go_wp2_with (go_at_call 171;(with_reducible refine (nN _ A3 n3 c3 l3 ?_ ?_ A4 n4 c4 l4 ?_ ?_ ?_ ?_ ?_).mono ?_);(exact hK.1);(exact hn3);(exact hK.2.1);(exact hn4);(exact hK.2.2.1);(exact hK.2.2.2.1);(exact HV.out);rintro e w9 ⟨A5,n5,c5,A6,n6,c6,rfl,h5,h6,hb9⟩);go_roundw
  case rel =>
   refine ⟨A4,n4,c4,l4,A6,n6,c6,_,rfl,rfl,hn4,?_,⟨hK.2.1.belw hb9,h6,hK.2.2.2.1,dc _,?_⟩,ah rr hb9⟩
   ·exact Nat.le_trans (qL h6 HV.out (hK.2.1.vlt Qr)) hn4
   rw [ag,Nat.gcd_comm,← Nat.gcd_rec,Nat.gcd_comm];exact hK.2.2.2.2
  case measure =>
   rw [h6.valOf,hm5,ag];exact Nat.mod_lt _ (Nat.pos_of_ne_zero HV.out)
  
end Go.Proofs.YtndhgcfajlalhaaGreatDoor
